/- Written by a program of this repo: what the program's functions do, each as a Lean function, shown of the loaded code; or a statement's row over that; no condition of its own. -/
import Derived.Test.YtmcfgahjchkgaaaPTimerSetsx3
namespace Go.Proofs.Ytmcfgahjchkgaaa.PTimerSets
open Go Go.RowKit Go.Proofs.YtmcfgahjchkgaaaV
set_option linter.unusedVariables false
set_option linter.unusedSimpArgs false

set_option maxHeartbeats 4000000 in
set_option maxRecDepth 100000 in
theorem tarryref10_Less.ok (a0_0 : Int) (a0_1 : Int) (a0_2 : Int) (a1_0 : Int) (a1_1 : Int) (a1_2 : Int)  (r1 : Bool) (h : tarryref10_Less.f a0_0 a0_1 a0_2 a1_0 a1_1 a1_2 = some r1) :
    VCalls Try.prog 28 [.agg #[.int .i64 a0_0, .int .i64 a0_1, .int .i64 a0_2], .agg #[.int .i64 a1_0, .int .i64 a1_1, .int .i64 a1_2]] [] (fun v G own => v = .bool r1 ∧ G = [] ∧ own = []) := by
  refine VCalls.intro Try.func28 rfl (len rfl) fun E hC => ?_
  unfold tarryref10_Less.f at h
  refine VC.seq ?_
  refine VC.region ?_
  refine VL.sG (o_box rfl (.agg (.c rfl (.c rfl (.c rfl .nil)))) (ltn rfl)) rfl ?_
  intro g1467
  refine VL.sG (o_box rfl (.agg (.c rfl (.c rfl (.c rfl .nil)))) (ltn rfl)) rfl ?_
  intro g1468
  refine VL.va (op_assign rfl (ltn rfl)) rfl ?_
  refine VL.done ?_
  refine VN.then ?_
  refine VC.seq ?_
  refine VC.seq ?_
  refine VC.region ?_
  refine VL.va (op_fieldAddr FI24_0 rfl (add_at _ _ _) (ltn rfl)) rfl ?_
  refine VL.va (op_load 1 1 rfl rfl TI3 rfl (by decide) (ltn rfl)) rfl ?_
  refine VL.va (op_fieldAddr FI24_0 rfl (add_at _ _ _) (ltn rfl)) rfl ?_
  refine VL.va (op_load 0 1 rfl rfl TI3 rfl (by decide) (ltn rfl)) rfl ?_
  refine VL.letter ((a0_0 != a1_0)) fun b1472 hb1472 => ?_
  refine VL.va (op_cmp rfl rfl (congrArg some hb1472) (ltn rfl)) rfl ?_
  refine VL.done ?_
  refine VN.then ?_
  by_cases c1473 : a0_0 = a1_0
  · rw [if_pos c1473] at h
    obtain rfl : b1472 = false := hb1472.symm.trans (bne_eq_false_iff_eq.2 c1473)
    refine VC.cond_f rfl ?_
    refine VC.skip ?_
    refine VN.then ?_
    refine VC.seq ?_
    refine VC.seq ?_
    refine VC.region ?_
    refine VL.va (op_fieldAddr FI24_1 rfl (add_at _ _ _) (ltn rfl)) rfl ?_
    refine VL.va (op_load 1 1 rfl rfl TI3 rfl (by decide) (ltn rfl)) rfl ?_
    refine VL.va (op_fieldAddr FI24_1 rfl (add_at _ _ _) (ltn rfl)) rfl ?_
    refine VL.va (op_load 0 1 rfl rfl TI3 rfl (by decide) (ltn rfl)) rfl ?_
    refine VL.letter ((a0_1 != a1_1)) fun b1477 hb1477 => ?_
    refine VL.va (op_cmp rfl rfl (congrArg some hb1477) (ltn rfl)) rfl ?_
    refine VL.done ?_
    refine VN.then ?_
    by_cases c1478 : a0_1 = a1_1
    · rw [if_pos c1478] at h
      obtain rfl : b1477 = false := hb1477.symm.trans (bne_eq_false_iff_eq.2 c1478)
      refine VC.cond_f rfl ?_
      refine VC.skip ?_
      refine VN.then ?_
      refine VC.seq ?_
      refine VC.region ?_
      refine VL.va (op_fieldAddr FI24_2 rfl (add_at _ _ _) (ltn rfl)) rfl ?_
      refine VL.va (op_load 1 1 rfl rfl TI3 rfl (by decide) (ltn rfl)) rfl ?_
      refine VL.va (op_fieldAddr FI24_2 rfl (add_at _ _ _) (ltn rfl)) rfl ?_
      refine VL.va (op_load 0 1 rfl rfl TI3 rfl (by decide) (ltn rfl)) rfl ?_
      refine VL.letter (decide (a0_2 < a1_2)) fun b1479 hb1479 => ?_
      refine VL.va (op_cmp rfl rfl (congrArg some hb1479) (ltn rfl)) rfl ?_
      refine VL.va (op_assign rfl (ltn rfl)) rfl ?_
      refine VL.done ?_
      refine VN.then ?_
      refine VC.ret ?_
      obtain rfl := Option.some.inj h
      subst hb1479
      exact VR.fn (rs := [.tmp 4]) [] [] [] rfl (.tmp rfl .nil) ⟨rfl, rfl, rfl⟩ trivial rfl (by decide)
    · rw [if_neg c1478] at h
      obtain rfl : b1477 = true := hb1477.symm.trans (bne_iff_ne.2 c1478)
      refine VC.cond_t rfl ?_
      refine VC.seq ?_
      refine VC.region ?_
      refine VL.va (op_fieldAddr FI24_1 rfl (add_at _ _ _) (ltn rfl)) rfl ?_
      refine VL.va (op_load 1 1 rfl rfl TI3 rfl (by decide) (ltn rfl)) rfl ?_
      refine VL.va (op_fieldAddr FI24_1 rfl (add_at _ _ _) (ltn rfl)) rfl ?_
      refine VL.va (op_load 0 1 rfl rfl TI3 rfl (by decide) (ltn rfl)) rfl ?_
      refine VL.letter (decide (a0_1 < a1_1)) fun b1480 hb1480 => ?_
      refine VL.va (op_cmp rfl rfl (congrArg some hb1480) (ltn rfl)) rfl ?_
      refine VL.va (op_assign rfl (ltn rfl)) rfl ?_
      refine VL.done ?_
      refine VN.then ?_
      refine VC.ret ?_
      refine VR.then ?_
      obtain rfl := Option.some.inj h
      subst hb1480
      exact VR.fn (rs := [.tmp 4]) [] [] [] rfl (.tmp rfl .nil) ⟨rfl, rfl, rfl⟩ trivial rfl (by decide)
  · rw [if_neg c1473] at h
    obtain rfl : b1472 = true := hb1472.symm.trans (bne_iff_ne.2 c1473)
    refine VC.cond_t rfl ?_
    refine VC.seq ?_
    refine VC.region ?_
    refine VL.va (op_fieldAddr FI24_0 rfl (add_at _ _ _) (ltn rfl)) rfl ?_
    refine VL.va (op_load 1 1 rfl rfl TI3 rfl (by decide) (ltn rfl)) rfl ?_
    refine VL.va (op_fieldAddr FI24_0 rfl (add_at _ _ _) (ltn rfl)) rfl ?_
    refine VL.va (op_load 0 1 rfl rfl TI3 rfl (by decide) (ltn rfl)) rfl ?_
    refine VL.letter (decide (a0_0 < a1_0)) fun b1481 hb1481 => ?_
    refine VL.va (op_cmp rfl rfl (congrArg some hb1481) (ltn rfl)) rfl ?_
    refine VL.va (op_assign rfl (ltn rfl)) rfl ?_
    refine VL.done ?_
    refine VN.then ?_
    refine VC.ret ?_
    refine VR.then ?_
    obtain rfl := Option.some.inj h
    subst hb1481
    exact VR.fn (rs := [.tmp 4]) [] [] [] rfl (.tmp rfl .nil) ⟨rfl, rfl, rfl⟩ trivial rfl (by decide)
set_option maxHeartbeats 4000000 in
set_option maxRecDepth 100000 in
theorem tarryref10_Right.ok (k : Nat) (l0 : List S23) (v0 : Value) (r1 : Bool) (h : tarryref10_Right.f k l0 = some r1) :
    VCalls Try.prog 14 [v0] [.row v0 3 (l0.map enc23)] (fun v G own => v = .bool r1 ∧ G = [] ∧ own = []) := by
  refine VCalls.intro Try.func14 rfl (len rfl) fun E hC => ?_
  unfold tarryref10_Right.f at h
  refine VC.seq ?_
  refine VC.region ?_
  refine VL.va (op_assign rfl (ltn rfl)) rfl ?_
  refine VL.done ?_
  refine VN.then ?_
  refine VC.seq ?_
  refine VC.seq ?_
  refine VC.region ?_
  refine VL.va (op_move rfl (ltn rfl)) rfl ?_
  refine VL.va (op_len (m := l0.length) 0 lenm Try.underlying22 rfl rfl (ltn rfl)) rfl ?_
  refine VL.va (op_move rfl (ltn rfl)) rfl ?_
  refine VL.done ?_
  refine VN.then ?_
  refine VC.block ?_
  refine VC.loop1 (fun (i2550 : Int) => ⟨48, [(0, v0), (2, .bool false), (7, v0), (8, .int .i64 (l0.length : Int)), (9, .int .i64 i2550)], [.row v0 3 (l0.map enc23)], [], []⟩) (fun (ml3 : Nat) (i2550 : Int) => tarryref10_Right.l3 k l0 ml3 i2550 = some r1) k 0 [] [] h ⟨rfl, ⟨rfl, rfl, rfl, rfl, rfl, trivial⟩, ⟨⟨0, rfl⟩, trivial⟩, rfl, by decide, rfl, by decide⟩ (by intros; simp [tarryref10_Right.l3]) ?_
  clear h
  intro ml3 ihl3 i2550 h
  simp only [tarryref10_Right.l3] at h
  refine VC.seq ?_
  refine VC.region ?_
  refine VL.letter (decide (i2550 < (l0.length : Int))) fun b2826 hb2826 => ?_
  refine VL.va (op_cmp rfl rfl (congrArg some hb2826) (ltn rfl)) rfl ?_
  refine VL.done ?_
  refine VN.then ?_
  refine VC.seq ?_
  by_cases c2829 : i2550 < (l0.length : Int)
  · rw [if_pos c2829] at h
    obtain rfl : b2826 = true := hb2826.symm.trans (decide_eq_true c2829)
    refine VC.cond_t rfl ?_
    refine VC.skip ?_
    refine VN.then ?_
    refine VC.seq ?_
    refine VC.block ?_
    refine VC.seq ?_
    refine VC.region ?_
    refine VL.va (op_move rfl (ltn rfl)) rfl ?_
    by_cases c2966 : 0 ≤ i2550
    · rw [if_pos c2966] at h
      replace h := Option.bind_eq_some_iff.1 h
      obtain ⟨x2967, hx2967, h⟩ := h
      refine VL.open (m := l0.length) 0 lenm rfl (pos_get hx2967) ?_
      rintro ad2968 n2969 rfl
      refine VL.va (op_indexAddr Try.underlying22 TI24 rfl rfl c2966 (lt_get c2966 hx2967) rfl (ltn rfl)) rfl ?_
      refine VL.va (op_load_row (o := 0) 0 i2550.toNat 3 rfl rfl (get_map hx2967) TI24 rfl (fun h => absurd h (by decide)) (ltn rfl)) rfl ?_
      refine VL.sG (o_alloc (us := [.int .i64 0, .int .i64 0, .int .i64 0]) Z24 rfl (ltn rfl)) rfl ?_
      intro g2970
      refine VL.va (op_assign rfl (ltn rfl)) rfl ?_
      refine VL.step1 (o_store 0 3 rfl rfl rfl TI24 (.agg (.c rfl (.c rfl (.c rfl .nil)))) rfl (len rfl)) rfl ?_
      refine VL.done ?_
      refine VN.then ?_
      refine VC.seq ?_
      refine VC.seq ?_
      refine VC.region ?_
      refine VL.va (op_load 0 3 rfl rfl TI24 rfl (fun h => absurd h (by decide)) (ltn rfl)) rfl ?_
      replace h := Option.bind_eq_some_iff.1 h
      obtain ⟨t2980, hA2981, h⟩ := h
      refine VL.sC (o_call0 FO17 (tarryref10_May.ok x2967.f0 x2967.f1 x2967.f2 t2980 hA2981) rfl rfl (ltn rfl) (All_of .nil)) rfl ?_
      rintro _ _ _ ⟨rfl, rfl, rfl⟩
      by_cases c2982 : t2980 = true
      · rw [if_pos c2982] at h
        obtain rfl := c2982
        refine VL.va (op_not rfl rfl (ltn rfl)) rfl ?_
        refine VL.done ?_
        refine VN.then ?_
        refine VC.cond_f rfl ?_
        refine VC.skip ?_
        refine VN.then ?_
        refine VC.seq ?_
        refine VC.region ?_
        refine VL.va (op_move rfl (ltn rfl)) rfl ?_
        refine VL.va (op_move rfl (ltn rfl)) rfl ?_
        by_cases c2983 : i2550 ≤ (l0.length : Int)
        · rw [if_pos c2983] at h
          refine VL.sG (o_slice (m := l0.length) 0 0 i2550.toNat lenm cutm Try.underlying22 TI24 rfl rfl ⟨rfl, ⟨_, _, rfl, c2966, rfl⟩, by omega, by omega⟩ (ltn rfl)) rfl ?_
          intro v2985
          refine VL.va (op_len (m := ((l0.take i2550.toNat).drop 0).length) 0 lenm Try.underlying22 rfl rfl (ltn rfl)) rfl ?_
          refine VL.va (op_move rfl (ltn rfl)) rfl ?_
          refine VL.done ?_
          refine VN.then ?_
          refine VC.block ?_
          refine VC.loop1 (fun (i3023 : Int) => ⟨48, [(0, (.slice (some ad2968) l0.length n2969)), (2, .bool false), (3, .int .i64 i2550), (4, .pointer (some ⟨g2970, 0, none⟩)), (7, (.slice (some ad2968) l0.length n2969)), (8, .int .i64 (l0.length : Int)), (9, .int .i64 i2550), (10, .bool true), (11, .int .i64 i2550), (13, .agg #[.int .i64 x2967.f0, .int .i64 x2967.f1, .int .i64 x2967.f2]), (14, .agg #[.int .i64 x2967.f0, .int .i64 x2967.f1, .int .i64 x2967.f2]), (15, .bool true), (16, .bool false), (17, (.slice (some ad2968) l0.length n2969)), (18, .int .i64 i2550), (19, v2985), (20, .int .i64 (((l0.take i2550.toNat).drop 0).length : Int)), (21, .int .i64 i3023)], [.row (.slice (some ad2968) l0.length n2969) 3 (l0.map enc23), .row v2985 3 (((l0.take i2550.toNat).drop 0).map enc23)], [(g2970, 24, [.int .i64 x2967.f0, .int .i64 x2967.f1, .int .i64 x2967.f2])], []⟩) (fun (ml5 : Nat) (i3023 : Int) => tarryref10_Right.l5 k (tarryref10_Right.l3 k l0 ml3) i2550 l0 x2967 ml5 i3023 = some r1) k 0 [0] [] h ⟨rfl, ⟨rfl, rfl, rfl, rfl, rfl, rfl, rfl, rfl, rfl, rfl, rfl, rfl, rfl, rfl, rfl, rfl, rfl, rfl, trivial⟩, ⟨⟨1, rfl⟩, ⟨0, rfl⟩, trivial⟩, rfl, by decide, rfl, by decide⟩ (by intros; simp [tarryref10_Right.l5]) ?_
          clear h
          intro ml5 ihl5 i3023 h
          simp only [tarryref10_Right.l5] at h
          refine VC.seq ?_
          refine VC.region ?_
          refine VL.letter (decide (i3023 < (((l0.take i2550.toNat).drop 0).length : Int))) fun b3063 hb3063 => ?_
          refine VL.va (op_cmp rfl rfl (congrArg some hb3063) (ltn rfl)) rfl ?_
          refine VL.done ?_
          refine VN.then ?_
          refine VC.seq ?_
          by_cases c3065 : i3023 < (((l0.take i2550.toNat).drop 0).length : Int)
          · rw [if_pos c3065] at h
            obtain rfl : b3063 = true := hb3063.symm.trans (decide_eq_true c3065)
            refine VC.cond_t rfl ?_
            refine VC.skip ?_
            refine VN.then ?_
            refine VC.seq ?_
            refine VC.block ?_
            refine VC.seq ?_
            refine VC.region ?_
            by_cases c3084 : 0 ≤ i3023
            · rw [if_pos c3084] at h
              replace h := Option.bind_eq_some_iff.1 h
              obtain ⟨x3085, hx3085, h⟩ := h
              refine VL.open (m := ((l0.take i2550.toNat).drop 0).length) 1 lenm rfl (pos_get hx3085) ?_
              rintro ad3086 n3087 rfl
              refine VL.va (op_indexAddr Try.underlying22 TI24 rfl rfl c3084 (lt_get c3084 hx3085) rfl (ltn rfl)) rfl ?_
              refine VL.va (op_load_row (o := 0) 1 i3023.toNat 3 rfl rfl (get_map hx3085) TI24 rfl (fun h => absurd h (by decide)) (ltn rfl)) rfl ?_
              refine VL.sG (o_alloc (us := [.int .i64 0, .int .i64 0, .int .i64 0]) Z24 rfl (ltn rfl)) rfl ?_
              intro g3088
              refine VL.step1 (o_store 0 3 rfl rfl rfl TI24 (.agg (.c rfl (.c rfl (.c rfl .nil)))) rfl (len rfl)) rfl ?_
              refine VL.done ?_
              refine VN.then ?_
              refine VC.seq ?_
              refine VC.region ?_
              refine VL.va (op_load 0 3 rfl rfl TI24 rfl (fun h => absurd h (by decide)) (ltn rfl)) rfl ?_
              refine VL.va (op_load 1 3 rfl rfl TI24 rfl (fun h => absurd h (by decide)) (ltn rfl)) rfl ?_
              replace h := Option.bind_eq_some_iff.1 h
              obtain ⟨t3095, hA3096, h⟩ := h
              refine VL.sC (o_call0 FO28 (tarryref10_Less.ok x3085.f0 x3085.f1 x3085.f2 x2967.f0 x2967.f1 x2967.f2 t3095 hA3096) rfl rfl (ltn rfl) (All_of .nil)) rfl ?_
              rintro _ _ _ ⟨rfl, rfl, rfl⟩
              by_cases c3097 : t3095 = true
              · rw [if_pos c3097] at h
                obtain rfl := c3097
                refine VL.va (op_not rfl rfl (ltn rfl)) rfl ?_
                refine VL.va (op_move rfl (ltn rfl)) rfl ?_
                refine VL.va (op_fieldAddr FI24_1 rfl (add_at _ _ _) (ltn rfl)) rfl ?_
                refine VL.va (op_load 0 1 rfl rfl TI3 rfl (by decide) (ltn rfl)) rfl ?_
                refine VL.va (op_fieldAddr FI24_1 rfl (add_at _ _ _) (ltn rfl)) rfl ?_
                refine VL.va (op_load 1 1 rfl rfl TI3 rfl (by decide) (ltn rfl)) rfl ?_
                refine VL.letter ((x3085.f1 == x2967.f1)) fun b3098 hb3098 => ?_
                refine VL.va (op_cmp rfl rfl (congrArg some hb3098) (ltn rfl)) rfl ?_
                refine VL.va (op_move rfl (ltn rfl)) rfl ?_
                by_cases c3099 : x3085.f1 = x2967.f1
                · rw [if_pos c3099] at h
                  obtain rfl : b3098 = true := hb3098.symm.trans (beq_iff_eq.2 c3099)
                  refine VL.va (op_fieldAddr FI24_2 rfl (add_at _ _ _) (ltn rfl)) rfl ?_
                  refine VL.va (op_load 0 1 rfl rfl TI3 rfl (by decide) (ltn rfl)) rfl ?_
                  refine VL.va (op_fieldAddr FI24_2 rfl (add_at _ _ _) (ltn rfl)) rfl ?_
                  refine VL.va (op_load 1 1 rfl rfl TI3 rfl (by decide) (ltn rfl)) rfl ?_
                  refine VL.letter ((x3085.f2 == x2967.f2)) fun b3100 hb3100 => ?_
                  refine VL.va (op_cmp rfl rfl (congrArg some hb3100) (ltn rfl)) rfl ?_
                  refine VL.va (op_pick rfl rfl (ltn rfl)) rfl ?_
                  refine VL.va (op_pick rfl rfl (ltn rfl)) rfl ?_
                  refine VL.done ?_
                  refine VN.then ?_
                  by_cases c3101 : x3085.f2 = x2967.f2
                  · rw [if_pos c3101] at h
                    obtain rfl : b3100 = true := hb3100.symm.trans (beq_iff_eq.2 c3101)
                    refine VC.cond_t rfl ?_
                    refine VC.seq ?_
                    refine VC.region ?_
                    refine VL.va (op_assign rfl (ltn rfl)) rfl ?_
                    refine VL.done ?_
                    refine VN.then ?_
                    refine VC.ret ?_
                    refine VR.block ?_
                    refine VR.then ?_
                    refine VR.then ?_
                    refine VR.block ?_
                    refine VR.block ?_
                    refine VR.then ?_
                    refine VR.then ?_
                    refine VR.block ?_
                    refine VR.then ?_
                    obtain rfl := Option.some.inj h
                    exact VR.fn (rs := [.tmp 2]) [] [] [] rfl (.tmp rfl .nil) ⟨rfl, rfl, rfl⟩ trivial rfl (by decide)
                  · rw [if_neg c3101] at h
                    obtain rfl : b3100 = false := hb3100.symm.trans (beq_eq_false_iff_ne.2 c3101)
                    refine VC.cond_f rfl ?_
                    refine VC.skip ?_
                    refine VN.block ?_
                    refine VN.then ?_
                    refine VC.region ?_
                    refine VL.va (op_ari64 rfl rfl rfl (ltn rfl)) rfl ?_
                    refine VL.va (op_move rfl (ltn rfl)) rfl ?_
                    refine VL.done ?_
                    refine VN.again [1] [] (ihl5 (wrap64 (i3023 + 1)) h) ⟨rfl, ⟨rfl, rfl, rfl, rfl, rfl, rfl, rfl, rfl, rfl, rfl, rfl, rfl, rfl, rfl, rfl, rfl, rfl, rfl, trivial⟩, ⟨⟨0, rfl⟩, ⟨1, rfl⟩, trivial⟩, rfl, by decide, rfl, by decide⟩
                · rw [if_neg c3099] at h
                  obtain rfl : b3098 = false := hb3098.symm.trans (beq_eq_false_iff_ne.2 c3099)
                  refine VL.un rfl rfl (ltn rfl) ?_
                  refine VL.un rfl rfl (ltn rfl) ?_
                  refine VL.un rfl rfl (ltn rfl) ?_
                  refine VL.un rfl rfl (ltn rfl) ?_
                  refine VL.un rfl rfl (ltn rfl) ?_
                  refine VL.va (op_pick rfl rfl (ltn rfl)) rfl ?_
                  refine VL.va (op_pick rfl rfl (ltn rfl)) rfl ?_
                  refine VL.done ?_
                  refine VN.then ?_
                  refine VC.cond_f rfl ?_
                  refine VC.skip ?_
                  refine VN.block ?_
                  refine VN.then ?_
                  refine VC.region ?_
                  refine VL.va (op_ari64 rfl rfl rfl (ltn rfl)) rfl ?_
                  refine VL.va (op_move rfl (ltn rfl)) rfl ?_
                  refine VL.done ?_
                  refine VN.again [1] [] (ihl5 (wrap64 (i3023 + 1)) h) ⟨rfl, ⟨rfl, rfl, rfl, rfl, rfl, rfl, rfl, rfl, rfl, rfl, rfl, rfl, rfl, rfl, rfl, rfl, rfl, rfl, trivial⟩, ⟨⟨0, rfl⟩, ⟨1, rfl⟩, trivial⟩, rfl, by decide, rfl, by decide⟩
              · rw [if_neg c3097] at h
                obtain rfl := Bool.eq_false_iff.2 c3097
                refine VL.va (op_not rfl rfl (ltn rfl)) rfl ?_
                refine VL.va (op_move rfl (ltn rfl)) rfl ?_
                refine VL.un rfl rfl (ltn rfl) ?_
                refine VL.un rfl rfl (ltn rfl) ?_
                refine VL.un rfl rfl (ltn rfl) ?_
                refine VL.un rfl rfl (ltn rfl) ?_
                refine VL.un rfl rfl (ltn rfl) ?_
                refine VL.un rfl rfl (ltn rfl) ?_
                refine VL.un rfl rfl (ltn rfl) ?_
                refine VL.un rfl rfl (ltn rfl) ?_
                refine VL.un rfl rfl (ltn rfl) ?_
                refine VL.un rfl rfl (ltn rfl) ?_
                refine VL.un rfl rfl (ltn rfl) ?_
                refine VL.un rfl rfl (ltn rfl) ?_
                refine VL.va (op_pick rfl rfl (ltn rfl)) rfl ?_
                refine VL.done ?_
                refine VN.then ?_
                refine VC.cond_t rfl ?_
                refine VC.seq ?_
                refine VC.region ?_
                refine VL.va (op_assign rfl (ltn rfl)) rfl ?_
                refine VL.done ?_
                refine VN.then ?_
                refine VC.ret ?_
                refine VR.block ?_
                refine VR.then ?_
                refine VR.then ?_
                refine VR.block ?_
                refine VR.block ?_
                refine VR.then ?_
                refine VR.then ?_
                refine VR.block ?_
                refine VR.then ?_
                obtain rfl := Option.some.inj h
                exact VR.fn (rs := [.tmp 2]) [] [] [] rfl (.tmp rfl .nil) ⟨rfl, rfl, rfl⟩ trivial rfl (by decide)
            · rw [if_neg c3084] at h; cases h
          · rw [if_neg c3065] at h
            obtain rfl : b3063 = false := hb3063.symm.trans (decide_eq_false c3065)
            refine VC.cond_f rfl ?_
            refine VC.exit ?_
            refine VX.then ?_
            refine VX.then ?_
            refine VX.hit ?_
            refine VN.block ?_
            refine VN.then ?_
            refine VC.region ?_
            refine VL.va (op_ari64 rfl rfl rfl (ltn rfl)) rfl ?_
            refine VL.va (op_move rfl (ltn rfl)) rfl ?_
            refine VL.done ?_
            refine VN.again [] [] (ihl3 (wrap64 (i2550 + 1)) h) ⟨rfl, ⟨rfl, rfl, rfl, rfl, rfl, trivial⟩, ⟨⟨0, rfl⟩, trivial⟩, rfl, by decide, rfl, by decide⟩
        · rw [if_neg c2983] at h; cases h
      · rw [if_neg c2982] at h
        obtain rfl := Bool.eq_false_iff.2 c2982
        refine VL.va (op_not rfl rfl (ltn rfl)) rfl ?_
        refine VL.done ?_
        refine VN.then ?_
        refine VC.cond_t rfl ?_
        refine VC.seq ?_
        refine VC.region ?_
        refine VL.va (op_assign rfl (ltn rfl)) rfl ?_
        refine VL.done ?_
        refine VN.then ?_
        refine VC.ret ?_
        refine VR.then ?_
        refine VR.block ?_
        refine VR.then ?_
        refine VR.then ?_
        refine VR.block ?_
        refine VR.then ?_
        obtain rfl := Option.some.inj h
        exact VR.fn (rs := [.tmp 2]) [] [] [] rfl (.tmp rfl .nil) ⟨rfl, rfl, rfl⟩ trivial rfl (by decide)
    · rw [if_neg c2966] at h; cases h
  · rw [if_neg c2829] at h
    obtain rfl : b2826 = false := hb2826.symm.trans (decide_eq_false c2829)
    refine VC.cond_f rfl ?_
    refine VC.exit ?_
    refine VX.then ?_
    refine VX.then ?_
    refine VX.hit ?_
    refine VN.then ?_
    refine VC.seq ?_
    refine VC.region ?_
    refine VL.va (op_move rfl (ltn rfl)) rfl ?_
    refine VL.va (op_len (m := l0.length) 0 lenm Try.underlying22 rfl rfl (ltn rfl)) rfl ?_
    refine VL.letter (decide ((l0.length : Int) ≤ 96)) fun b3102 hb3102 => ?_
    refine VL.va (op_cmp rfl rfl (congrArg some hb3102) (ltn rfl)) rfl ?_
    refine VL.va (op_assign rfl (ltn rfl)) rfl ?_
    refine VL.done ?_
    refine VN.then ?_
    refine VC.ret ?_
    obtain rfl := Option.some.inj h
    subst hb3102
    exact VR.fn (rs := [.tmp 2]) [] [] [] rfl (.tmp rfl .nil) ⟨rfl, rfl, rfl⟩ trivial rfl (by decide)
set_option maxHeartbeats 4000000 in
set_option maxRecDepth 100000 in
theorem tarrylaw10_alive.ok (k : Nat)   (r1 : Bool) (h : tarrylaw10_alive.f k = some r1) :
    VCalls Try.prog 8 [] [] (fun v G own => v = .bool r1 ∧ G = [] ∧ own = []) := by
  refine VCalls.intro Try.func8 rfl (len rfl) fun E hC => ?_
  unfold tarrylaw10_alive.f at h
  refine VC.seq ?_
  refine VC.region ?_
  refine VL.va (op_assign rfl (ltn rfl)) rfl ?_
  refine VL.done ?_
  refine VN.then ?_
  refine VC.seq ?_
  refine VC.region ?_
  refine VL.va (op_build (vals := [(0, .int .i64 5), (1, .int .i64 2), (2, .int .i64 1)]) (vcs := [(0, [.int .i64 5]), (1, [.int .i64 2]), (2, [.int .i64 1])]) (cells := [.int .i64 5, .int .i64 2, .int .i64 1]) SI24 rfl (.cons ⟨rfl, (.c rfl)⟩ (.cons ⟨rfl, (.c rfl)⟩ (.cons ⟨rfl, (.c rfl)⟩ .nil))) (by kernel_rfl) (ltn rfl)) rfl ?_
  refine VL.nilFact' 3 ?_
  replace h := Option.bind_eq_some_iff.1 h
  obtain ⟨⟨r3108, t3109⟩, hA3110, h⟩ := h
  dsimp only at h
  refine VL.sC (o_call0 FO7 (timer_Set.ok k [] 5 2 1 (.slice none 0 0) r3108 t3109 hA3110) rfl rfl (ltn rfl) (All_of (.cons (List.mem_of_getElem? (i := 0) rfl) .nil))) rfl ?_
  rintro _ _ _ ⟨v3112, rfl, rfl, rfl⟩
  refine VL.va (op_move rfl (ltn rfl)) rfl ?_
  refine VL.va (op_extract rfl rfl (ltn rfl)) rfl ?_
  refine VL.va (op_extract rfl rfl (ltn rfl)) rfl ?_
  refine VL.va (op_assign rfl (ltn rfl)) rfl ?_
  refine VL.va (op_assign rfl (ltn rfl)) rfl ?_
  refine VL.done ?_
  refine VN.then ?_
  refine VC.seq ?_
  refine VC.region ?_
  refine VL.va (op_move rfl (ltn rfl)) rfl ?_
  replace h := Option.bind_eq_some_iff.1 h
  obtain ⟨⟨r3113, r3114, t3115⟩, hA3116, h⟩ := h
  dsimp only at h
  refine VL.sC (o_call_b0 FO12 (timer_Due.ok k r3108 5 v3112 r3113 r3114 t3115 hA3116) rfl rfl (ltn rfl) (All_of (.cons (.inr (.inl ⟨_, List.mem_of_getElem? (i := 0) rfl, rfl⟩)) .nil)) (by rintro _ _ _ ⟨v3118, v3120, rfl, rfl, rfl⟩; rfl)) rfl ?_
  rintro _ _ _ ⟨v3118, v3120, rfl, rfl, rfl⟩
  refine VL.va (op_move rfl (ltn rfl)) rfl ?_
  refine VL.va (op_extract rfl rfl (ltn rfl)) rfl ?_
  refine VL.va (op_extract rfl rfl (ltn rfl)) rfl ?_
  refine VL.va (op_extract rfl rfl (ltn rfl)) rfl ?_
  refine VL.va (op_assign rfl (ltn rfl)) rfl ?_
  refine VL.va (op_assign rfl (ltn rfl)) rfl ?_
  refine VL.va (op_assign rfl (ltn rfl)) rfl ?_
  refine VL.done ?_
  refine VN.then ?_
  refine VC.seq ?_
  refine VC.region ?_
  refine VL.va (op_move rfl (ltn rfl)) rfl ?_
  refine VL.letter ((t3109 == 0)) fun b3131 hb3131 => ?_
  refine VL.va (op_cmp rfl rfl (congrArg some hb3131) (ltn rfl)) rfl ?_
  refine VL.va (op_move rfl (ltn rfl)) rfl ?_
  by_cases c3132 : t3109 = 0
  · rw [if_pos c3132] at h
    obtain rfl : b3131 = true := hb3131.symm.trans (beq_iff_eq.2 c3132)
    refine VL.va (op_move rfl (ltn rfl)) rfl ?_
    refine VL.letter ((t3115 == 0)) fun b3133 hb3133 => ?_
    refine VL.va (op_cmp rfl rfl (congrArg some hb3133) (ltn rfl)) rfl ?_
    refine VL.va (op_pick rfl rfl (ltn rfl)) rfl ?_
    refine VL.va (op_move rfl (ltn rfl)) rfl ?_
    by_cases c3134 : t3115 = 0
    · rw [if_pos c3134] at h
      obtain rfl : b3133 = true := hb3133.symm.trans (beq_iff_eq.2 c3134)
      refine VL.va (op_move rfl (ltn rfl)) rfl ?_
      refine VL.va (op_len_own (m := r3113.length) 0 lenm Try.underlying22 rfl rfl (ltn rfl)) rfl ?_
      refine VL.letter (((r3113.length : Int) == 1)) fun b3135 hb3135 => ?_
      refine VL.va (op_cmp rfl rfl (congrArg some hb3135) (ltn rfl)) rfl ?_
      refine VL.va (op_pick rfl rfl (ltn rfl)) rfl ?_
      refine VL.va (op_move rfl (ltn rfl)) rfl ?_
      by_cases c3136 : (r3113.length : Int) = 1
      · rw [if_pos c3136] at h
        obtain rfl : b3135 = true := hb3135.symm.trans (beq_iff_eq.2 c3136)
        refine VL.va (op_move rfl (ltn rfl)) rfl ?_
        replace h := Option.bind_eq_some_iff.1 h
        obtain ⟨x3137, hx3137, h⟩ := h
        refine VL.openR (m := r3113.length) 0 lenm rfl (pos_get hx3137) ?_
        rintro g3138 n3139 rfl
        refine VL.va (op_indexAddr Try.underlying22 TI24 rfl rfl (by decide) (lt_get (by decide) hx3137) (add_zero_at _ _) (ltn rfl)) rfl ?_
        refine VL.va (op_fieldAddr FI24_0 rfl (add_at _ _ _) (ltn rfl)) rfl ?_
        refine VL.va (op_load_own (o := 0) 0 0 1 rfl rfl (get_map hx3137) TI3 rfl (by decide) (ltn rfl)) rfl ?_
        refine VL.letter ((x3137.f0 == 5)) fun b3140 hb3140 => ?_
        refine VL.va (op_cmp rfl rfl (congrArg some hb3140) (ltn rfl)) rfl ?_
        refine VL.va (op_pick rfl rfl (ltn rfl)) rfl ?_
        refine VL.va (op_assign rfl (ltn rfl)) rfl ?_
        refine VL.done ?_
        refine VN.then ?_
        refine VC.ret ?_
        obtain rfl := Option.some.inj h
        subst hb3140
        exact VR.fn (rs := [.tmp 0]) [] [] [] rfl (.tmp rfl .nil) ⟨rfl, rfl, rfl⟩ trivial rfl (by decide)
      · rw [if_neg c3136] at h
        obtain rfl : b3135 = false := hb3135.symm.trans (beq_eq_false_iff_ne.2 c3136)
        refine VL.un rfl rfl (ltn rfl) ?_
        refine VL.un rfl rfl (ltn rfl) ?_
        refine VL.un rfl rfl (ltn rfl) ?_
        refine VL.un rfl rfl (ltn rfl) ?_
        refine VL.un rfl rfl (ltn rfl) ?_
        refine VL.va (op_pick rfl rfl (ltn rfl)) rfl ?_
        refine VL.va (op_assign rfl (ltn rfl)) rfl ?_
        refine VL.done ?_
        refine VN.then ?_
        refine VC.ret ?_
        obtain rfl := Option.some.inj h
        exact VR.fn (rs := [.tmp 0]) [] [] [] rfl (.tmp rfl .nil) ⟨rfl, rfl, rfl⟩ trivial rfl (by decide)
    · rw [if_neg c3134] at h
      obtain rfl : b3133 = false := hb3133.symm.trans (beq_eq_false_iff_ne.2 c3134)
      refine VL.un rfl rfl (ltn rfl) ?_
      refine VL.un rfl rfl (ltn rfl) ?_
      refine VL.un rfl rfl (ltn rfl) ?_
      refine VL.va (op_pick rfl rfl (ltn rfl)) rfl ?_
      refine VL.va (op_move rfl (ltn rfl)) rfl ?_
      refine VL.un rfl rfl (ltn rfl) ?_
      refine VL.un rfl rfl (ltn rfl) ?_
      refine VL.un rfl rfl (ltn rfl) ?_
      refine VL.un rfl rfl (ltn rfl) ?_
      refine VL.un rfl rfl (ltn rfl) ?_
      refine VL.va (op_pick rfl rfl (ltn rfl)) rfl ?_
      refine VL.va (op_assign rfl (ltn rfl)) rfl ?_
      refine VL.done ?_
      refine VN.then ?_
      refine VC.ret ?_
      obtain rfl := Option.some.inj h
      exact VR.fn (rs := [.tmp 0]) [] [] [] rfl (.tmp rfl .nil) ⟨rfl, rfl, rfl⟩ trivial rfl (by decide)
  · rw [if_neg c3132] at h
    obtain rfl : b3131 = false := hb3131.symm.trans (beq_eq_false_iff_ne.2 c3132)
    refine VL.un rfl rfl (ltn rfl) ?_
    refine VL.un rfl rfl (ltn rfl) ?_
    refine VL.va (op_pick rfl rfl (ltn rfl)) rfl ?_
    refine VL.va (op_move rfl (ltn rfl)) rfl ?_
    refine VL.un rfl rfl (ltn rfl) ?_
    refine VL.un rfl rfl (ltn rfl) ?_
    refine VL.un rfl rfl (ltn rfl) ?_
    refine VL.va (op_pick rfl rfl (ltn rfl)) rfl ?_
    refine VL.va (op_move rfl (ltn rfl)) rfl ?_
    refine VL.un rfl rfl (ltn rfl) ?_
    refine VL.un rfl rfl (ltn rfl) ?_
    refine VL.un rfl rfl (ltn rfl) ?_
    refine VL.un rfl rfl (ltn rfl) ?_
    refine VL.un rfl rfl (ltn rfl) ?_
    refine VL.va (op_pick rfl rfl (ltn rfl)) rfl ?_
    refine VL.va (op_assign rfl (ltn rfl)) rfl ?_
    refine VL.done ?_
    refine VN.then ?_
    refine VC.ret ?_
    obtain rfl := Option.some.inj h
    exact VR.fn (rs := [.tmp 0]) [] [] [] rfl (.tmp rfl .nil) ⟨rfl, rfl, rfl⟩ trivial rfl (by decide)
set_option maxHeartbeats 4000000 in
set_option maxRecDepth 100000 in
theorem tarryref10_Clear.ok (k : Nat) (l0 : List S23) (a1 : Int) (a2 : Int) (v0 : Value) (r1 : List S23) (h : tarryref10_Clear.f k l0 a1 a2 = some r1) :
    VCalls Try.prog 15 [v0, .int .i64 a1, .int .i64 a2] [.row v0 3 (l0.map enc23)] (fun v G own => ∃ w0 : Value, v = w0 ∧ G = [] ∧ own = [(w0, 24, 3, r1.map enc23)]) := by
  refine VCalls.intro Try.func15 rfl (len rfl) fun E hC => ?_
  unfold tarryref10_Clear.f at h
  refine VC.seq ?_
  refine VC.region ?_
  refine VL.va (op_assign rfl (ltn rfl)) rfl ?_
  refine VL.done ?_
  refine VN.then ?_
  refine VC.seq ?_
  refine VC.region ?_
  refine VL.sG (o_buildSlice (vals := []) (cells := #[]) (es := List.map enc23 ([] : List S23)) Try.underlying22 TI24 Z24 rfl (by decide) (by decide) (by kernel_rfl) (by kernel_rfl) rfl (flat_map enc23_ok _) (ltn rfl)) rfl ?_
  intro v3205
  refine VL.va (op_assign rfl (ltn rfl)) rfl ?_
  refine VL.done ?_
  refine VN.then ?_
  refine VC.seq ?_
  refine VC.seq ?_
  refine VC.region ?_
  refine VL.va (op_move rfl (ltn rfl)) rfl ?_
  refine VL.va (op_len (m := l0.length) 0 lenm Try.underlying22 rfl rfl (ltn rfl)) rfl ?_
  refine VL.va (op_move rfl (ltn rfl)) rfl ?_
  refine VL.done ?_
  refine VN.then ?_
  refine VC.block ?_
  refine VC.loop3 (fun (v3395 : Value) (l3396 : List S23) (i3397 : Int) => ⟨33, [(1, .int .i64 a1), (2, .int .i64 a2), (6, .slice none 0 0), (7, v3395), (11, v0), (12, .int .i64 (l0.length : Int)), (13, .int .i64 i3397)], [.row v0 3 (l0.map enc23)], [], [(v3395, 24, 3, l3396.map enc23)]⟩) (fun (ml1 : Nat) (v3395 : Value) (l3396 : List S23) (i3397 : Int) => tarryref10_Clear.l1 k a1 a2 l0 ml1 l3396 i3397 = some r1) k v3205 ([] : List S23) 0 [] [0] h ⟨rfl, ⟨rfl, rfl, rfl, rfl, rfl, rfl, rfl, trivial⟩, ⟨⟨0, rfl⟩, trivial⟩, rfl, by decide, rfl, by decide⟩ (by intros; simp [tarryref10_Clear.l1]) ?_
  clear h
  intro ml1 ihl1 v3395 l3396 i3397 h
  simp only [tarryref10_Clear.l1] at h
  refine VC.seq ?_
  refine VC.region ?_
  refine VL.letter (decide (i3397 < (l0.length : Int))) fun b3445 hb3445 => ?_
  refine VL.va (op_cmp rfl rfl (congrArg some hb3445) (ltn rfl)) rfl ?_
  refine VL.done ?_
  refine VN.then ?_
  refine VC.seq ?_
  by_cases c3447 : i3397 < (l0.length : Int)
  · rw [if_pos c3447] at h
    obtain rfl : b3445 = true := hb3445.symm.trans (decide_eq_true c3447)
    refine VC.cond_t rfl ?_
    refine VC.skip ?_
    refine VN.then ?_
    refine VC.seq ?_
    refine VC.block ?_
    refine VC.seq ?_
    refine VC.region ?_
    by_cases c3470 : 0 ≤ i3397
    · rw [if_pos c3470] at h
      replace h := Option.bind_eq_some_iff.1 h
      obtain ⟨x3471, hx3471, h⟩ := h
      refine VL.open (m := l0.length) 0 lenm rfl (pos_get hx3471) ?_
      rintro ad3472 n3473 rfl
      refine VL.va (op_indexAddr Try.underlying22 TI24 rfl rfl c3470 (lt_get c3470 hx3471) rfl (ltn rfl)) rfl ?_
      refine VL.va (op_load_row (o := 0) 0 i3397.toNat 3 rfl rfl (get_map hx3471) TI24 rfl (fun h => absurd h (by decide)) (ltn rfl)) rfl ?_
      refine VL.sG (o_alloc (us := [.int .i64 0, .int .i64 0, .int .i64 0]) Z24 rfl (ltn rfl)) rfl ?_
      intro g3474
      refine VL.step1 (o_store 0 3 rfl rfl rfl TI24 (.agg (.c rfl (.c rfl (.c rfl .nil)))) rfl (len rfl)) rfl ?_
      refine VL.done ?_
      refine VN.then ?_
      refine VC.seq ?_
      refine VC.region ?_
      refine VL.va (op_fieldAddr FI24_1 rfl (add_at _ _ _) (ltn rfl)) rfl ?_
      refine VL.va (op_load 0 1 rfl rfl TI3 rfl (by decide) (ltn rfl)) rfl ?_
      refine VL.va (op_move rfl (ltn rfl)) rfl ?_
      refine VL.letter ((x3471.f1 != a1)) fun b3478 hb3478 => ?_
      refine VL.va (op_cmp rfl rfl (congrArg some hb3478) (ltn rfl)) rfl ?_
      refine VL.va (op_move rfl (ltn rfl)) rfl ?_
      by_cases c3479 : x3471.f1 = a1
      · rw [if_pos c3479] at h
        obtain rfl : b3478 = false := hb3478.symm.trans (bne_eq_false_iff_eq.2 c3479)
        refine VL.va (op_fieldAddr FI24_2 rfl (add_at _ _ _) (ltn rfl)) rfl ?_
        refine VL.va (op_load 0 1 rfl rfl TI3 rfl (by decide) (ltn rfl)) rfl ?_
        refine VL.va (op_move rfl (ltn rfl)) rfl ?_
        refine VL.letter ((x3471.f2 != a2)) fun b3480 hb3480 => ?_
        refine VL.va (op_cmp rfl rfl (congrArg some hb3480) (ltn rfl)) rfl ?_
        refine VL.va (op_pick rfl rfl (ltn rfl)) rfl ?_
        refine VL.done ?_
        refine VN.then ?_
        by_cases c3481 : x3471.f2 = a2
        · rw [if_pos c3481] at h
          obtain rfl : b3480 = false := hb3480.symm.trans (bne_eq_false_iff_eq.2 c3481)
          refine VC.cond_f rfl ?_
          refine VC.skip ?_
          refine VN.block ?_
          refine VN.then ?_
          refine VC.region ?_
          refine VL.va (op_ari64 rfl rfl rfl (ltn rfl)) rfl ?_
          refine VL.va (op_move rfl (ltn rfl)) rfl ?_
          refine VL.done ?_
          refine VN.again [] [0] (ihl1 v3395 l3396 (wrap64 (i3397 + 1)) h) ⟨rfl, ⟨rfl, rfl, rfl, rfl, rfl, rfl, rfl, trivial⟩, ⟨⟨0, rfl⟩, trivial⟩, rfl, by decide, rfl, by decide⟩
        · rw [if_neg c3481] at h
          obtain rfl : b3480 = true := hb3480.symm.trans (bne_iff_ne.2 c3481)
          refine VC.cond_t rfl ?_
          refine VC.region ?_
          refine VL.va (op_move rfl (ltn rfl)) rfl ?_
          refine VL.va (op_load 0 3 rfl rfl TI24 rfl (fun h => absurd h (by decide)) (ltn rfl)) rfl ?_
          refine VL.sG (o_buildSlice (vals := [(0, .agg #[.int .i64 x3471.f0, .int .i64 x3471.f1, .int .i64 x3471.f2])]) (cells := #[.int .i64 x3471.f0, .int .i64 x3471.f1, .int .i64 x3471.f2]) (es := List.map enc23 ([x3471] : List S23)) Try.underlying22 TI24 Z24 rfl (by decide) (by decide) (by kernel_rfl) (by kernel_rfl) rfl (flat_map enc23_ok _) (ltn rfl)) rfl ?_
          intro v3483
          by_cases c3484 : (l3396.length + ([x3471] : List S23).length) * 24 ≤ 140737488355328
          · rw [if_pos c3484] at h
            refine VL.sG (o_append 1 appm Try.underlying22 EI24 rfl rfl rfl (.inr ⟨0, _, rfl⟩) (bndm c3484) (ltn rfl)) rfl ?_
            intro v3485
            refine VL.va (op_assign rfl (ltn rfl)) rfl ?_
            refine VL.done ?_
            refine VN.block ?_
            refine VN.then ?_
            refine VC.region ?_
            refine VL.va (op_ari64 rfl rfl rfl (ltn rfl)) rfl ?_
            refine VL.va (op_move rfl (ltn rfl)) rfl ?_
            refine VL.done ?_
            refine VN.again [] [1] (ihl1 v3485 (l3396 ++ ([x3471] : List S23)) (wrap64 (i3397 + 1)) h) ⟨rfl, ⟨rfl, rfl, rfl, rfl, rfl, rfl, rfl, trivial⟩, ⟨⟨0, rfl⟩, trivial⟩, rfl, by decide, rfl, by decide⟩
          · rw [if_neg c3484] at h; cases h
      · rw [if_neg c3479] at h
        obtain rfl : b3478 = true := hb3478.symm.trans (bne_iff_ne.2 c3479)
        refine VL.un rfl rfl (ltn rfl) ?_
        refine VL.un rfl rfl (ltn rfl) ?_
        refine VL.un rfl rfl (ltn rfl) ?_
        refine VL.un rfl rfl (ltn rfl) ?_
        refine VL.va (op_pick rfl rfl (ltn rfl)) rfl ?_
        refine VL.done ?_
        refine VN.then ?_
        refine VC.cond_t rfl ?_
        refine VC.region ?_
        refine VL.va (op_move rfl (ltn rfl)) rfl ?_
        refine VL.va (op_load 0 3 rfl rfl TI24 rfl (fun h => absurd h (by decide)) (ltn rfl)) rfl ?_
        refine VL.sG (o_buildSlice (vals := [(0, .agg #[.int .i64 x3471.f0, .int .i64 x3471.f1, .int .i64 x3471.f2])]) (cells := #[.int .i64 x3471.f0, .int .i64 x3471.f1, .int .i64 x3471.f2]) (es := List.map enc23 ([x3471] : List S23)) Try.underlying22 TI24 Z24 rfl (by decide) (by decide) (by kernel_rfl) (by kernel_rfl) rfl (flat_map enc23_ok _) (ltn rfl)) rfl ?_
        intro v3488
        by_cases c3489 : (l3396.length + ([x3471] : List S23).length) * 24 ≤ 140737488355328
        · rw [if_pos c3489] at h
          refine VL.sG (o_append 1 appm Try.underlying22 EI24 rfl rfl rfl (.inr ⟨0, _, rfl⟩) (bndm c3489) (ltn rfl)) rfl ?_
          intro v3490
          refine VL.va (op_assign rfl (ltn rfl)) rfl ?_
          refine VL.done ?_
          refine VN.block ?_
          refine VN.then ?_
          refine VC.region ?_
          refine VL.va (op_ari64 rfl rfl rfl (ltn rfl)) rfl ?_
          refine VL.va (op_move rfl (ltn rfl)) rfl ?_
          refine VL.done ?_
          refine VN.again [] [1] (ihl1 v3490 (l3396 ++ ([x3471] : List S23)) (wrap64 (i3397 + 1)) h) ⟨rfl, ⟨rfl, rfl, rfl, rfl, rfl, rfl, rfl, trivial⟩, ⟨⟨0, rfl⟩, trivial⟩, rfl, by decide, rfl, by decide⟩
        · rw [if_neg c3489] at h; cases h
    · rw [if_neg c3470] at h; cases h
  · rw [if_neg c3447] at h
    obtain rfl : b3445 = false := hb3445.symm.trans (decide_eq_false c3447)
    refine VC.cond_f rfl ?_
    refine VC.exit ?_
    refine VX.then ?_
    refine VX.then ?_
    refine VX.hit ?_
    refine VN.then ?_
    refine VC.seq ?_
    refine VC.region ?_
    refine VL.va (op_move rfl (ltn rfl)) rfl ?_
    refine VL.va (op_assign rfl (ltn rfl)) rfl ?_
    refine VL.done ?_
    refine VN.then ?_
    refine VC.ret ?_
    obtain rfl := Option.some.inj h
    exact VR.fn (rs := [.tmp 6]) [] [(v3395, 24, 3, l3396.map enc23)] [0] rfl (.tmp rfl .nil) ⟨v3395, rfl, rfl, rfl⟩ trivial rfl (by decide)
set_option maxHeartbeats 4000000 in
set_option maxRecDepth 100000 in
theorem tarryref10_Same.ok (k : Nat) (l0 : List S23) (l1 : List S23) (v0 : Value) (v1 : Value) (r1 : Bool) (h : tarryref10_Same.f k l0 l1 = some r1) :
    VCalls Try.prog 10 [v0, v1] [.row v0 3 (l0.map enc23), .row v1 3 (l1.map enc23)] (fun v G own => v = .bool r1 ∧ G = [] ∧ own = []) := by
  refine VCalls.intro Try.func10 rfl (len rfl) fun E hC => ?_
  unfold tarryref10_Same.f at h
  refine VC.seq ?_
  refine VC.region ?_
  refine VL.va (op_assign rfl (ltn rfl)) rfl ?_
  refine VL.done ?_
  refine VN.then ?_
  refine VC.seq ?_
  refine VC.seq ?_
  refine VC.region ?_
  refine VL.va (op_move rfl (ltn rfl)) rfl ?_
  refine VL.va (op_len (m := l0.length) 0 lenm Try.underlying22 rfl rfl (ltn rfl)) rfl ?_
  refine VL.va (op_move rfl (ltn rfl)) rfl ?_
  refine VL.va (op_len (m := l1.length) 1 lenm Try.underlying22 rfl rfl (ltn rfl)) rfl ?_
  refine VL.letter (((l0.length : Int) != (l1.length : Int))) fun b3500 hb3500 => ?_
  refine VL.va (op_cmp rfl rfl (congrArg some hb3500) (ltn rfl)) rfl ?_
  refine VL.done ?_
  refine VN.then ?_
  by_cases c3501 : (l0.length : Int) = (l1.length : Int)
  · rw [if_pos c3501] at h
    obtain rfl : b3500 = false := hb3500.symm.trans (bne_eq_false_iff_eq.2 c3501)
    refine VC.cond_f rfl ?_
    refine VC.skip ?_
    refine VN.then ?_
    refine VC.seq ?_
    refine VC.seq ?_
    refine VC.region ?_
    refine VL.va (op_move rfl (ltn rfl)) rfl ?_
    refine VL.va (op_len (m := l0.length) 0 lenm Try.underlying22 rfl rfl (ltn rfl)) rfl ?_
    refine VL.va (op_move rfl (ltn rfl)) rfl ?_
    refine VL.done ?_
    refine VN.then ?_
    refine VC.block ?_
    refine VC.loop1 (fun (i3555 : Int) => ⟨26, [(0, v0), (1, v1), (4, .bool false), (12, .int .i64 (l0.length : Int)), (13, .int .i64 i3555)], [.row v0 3 (l0.map enc23), .row v1 3 (l1.map enc23)], [], []⟩) (fun (ml1 : Nat) (i3555 : Int) => tarryref10_Same.l1 k l0 l1 ml1 i3555 = some r1) k 0 [] [] h ⟨rfl, ⟨rfl, rfl, rfl, rfl, rfl, trivial⟩, ⟨⟨0, rfl⟩, ⟨1, rfl⟩, trivial⟩, rfl, by decide, rfl, by decide⟩ (by intros; simp [tarryref10_Same.l1]) ?_
    clear h
    intro ml1 ihl1 i3555 h
    simp only [tarryref10_Same.l1] at h
    refine VC.seq ?_
    refine VC.region ?_
    refine VL.letter (decide (i3555 < (l0.length : Int))) fun b3569 hb3569 => ?_
    refine VL.va (op_cmp rfl rfl (congrArg some hb3569) (ltn rfl)) rfl ?_
    refine VL.done ?_
    refine VN.then ?_
    refine VC.seq ?_
    by_cases c3571 : i3555 < (l0.length : Int)
    · rw [if_pos c3571] at h
      obtain rfl : b3569 = true := hb3569.symm.trans (decide_eq_true c3571)
      refine VC.cond_t rfl ?_
      refine VC.skip ?_
      refine VN.then ?_
      refine VC.seq ?_
      refine VC.block ?_
      refine VC.seq ?_
      refine VC.region ?_
      refine VL.va (op_move rfl (ltn rfl)) rfl ?_
      refine VL.va (op_assign rfl (ltn rfl)) rfl ?_
      refine VL.done ?_
      refine VN.then ?_
      by_cases c3577 : 0 ≤ i3555
      · rw [if_pos c3577] at h
        replace h := Option.bind_eq_some_iff.1 h
        obtain ⟨x3578, hx3578, h⟩ := h
        replace h := Option.bind_eq_some_iff.1 h
        obtain ⟨x3579, hx3579, h⟩ := h
        refine VC.letter ((!(((x3578.f0 == x3579.f0) && ((x3578.f1 == x3579.f1) && (x3578.f2 == x3579.f2)))))) fun b3580 hb3580 => ?_
        refine VC.open (m := l0.length) 0 lenm rfl (pos_get hx3578) ?_
        rintro ad3506 n3507 rfl
        refine VC.open (m := l1.length) 1 lenm rfl (pos_get hx3579) ?_
        rintro ad3509 n3510 rfl
        refine VC.join0 (⟨26, [(0, (.slice (some ad3506) l0.length n3507)), (1, (.slice (some ad3509) l1.length n3510)), (4, .bool false), (5, .int .i64 i3555), (12, .int .i64 (l0.length : Int)), (13, .int .i64 i3555), (14, .bool true), (15, .int .i64 i3555), (16, (.slice (some ad3506) l0.length n3507)), (17, .int .i64 i3555), (19, .agg #[.int .i64 x3578.f0, .int .i64 x3578.f1, .int .i64 x3578.f2]), (20, (.slice (some ad3509) l1.length n3510)), (21, .int .i64 i3555), (23, .agg #[.int .i64 x3579.f0, .int .i64 x3579.f1, .int .i64 x3579.f2]), (24, .bool b3580)], [.row (.slice (some ad3506) l0.length n3507) 3 (l0.map enc23), .row (.slice (some ad3509) l1.length n3510) 3 (l1.map enc23)], [], []⟩) (True) ?_ ?_
        · refine VC.draw ⟨0, [], [.row (.slice (some ad3506) l0.length n3507) 3 (l0.map enc23), .row (.slice (some ad3509) l1.length n3510) 3 (l1.map enc23)], [], []⟩ (by kernel_rfl) rfl (by kernel_rfl) (n := 9) (listed := LB 9 0) ?_
          refine VA.va (i := 0) (listed' := LB 9 1) rfl (op_move rfl (ltn rfl)) rfl (by kernel_rfl) (by kernel_rfl) (by kernel_rfl) (by kernel_rfl) ⟨⟨⟨0, rfl⟩, ⟨1, rfl⟩, trivial⟩, trivial, trivial⟩ (fun _ _ _ h => h) ?_
          refine VA.va (i := 1) (listed' := LB 9 3) rfl (op_move rfl (ltn rfl)) rfl (by kernel_rfl) (by kernel_rfl) (by kernel_rfl) (by kernel_rfl) ⟨⟨⟨0, rfl⟩, ⟨1, rfl⟩, trivial⟩, trivial, trivial⟩ (fun _ _ _ h => h) ?_
          refine VA.va (i := 2) (listed' := LB 9 7) rfl (op_indexAddr Try.underlying22 TI24 rfl rfl c3577 (lt_get c3577 hx3578) rfl (ltn rfl)) rfl (by kernel_rfl) (by kernel_rfl) (by kernel_rfl) (by kernel_rfl) ⟨⟨⟨0, rfl⟩, ⟨1, rfl⟩, trivial⟩, trivial, trivial⟩ (fun _ _ _ h => h) ?_
          refine VA.va (i := 3) (listed' := LB 9 15) rfl (op_load_row (o := 0) 0 i3555.toNat 3 rfl rfl (get_map hx3578) TI24 rfl (fun h => absurd h (by decide)) (ltn rfl)) rfl (by kernel_rfl) (by kernel_rfl) (by kernel_rfl) (by kernel_rfl) ⟨⟨⟨0, rfl⟩, ⟨1, rfl⟩, trivial⟩, trivial, trivial⟩ (fun _ _ _ h => h) ?_
          refine VA.va (i := 4) (listed' := LB 9 31) rfl (op_move rfl (ltn rfl)) rfl (by kernel_rfl) (by kernel_rfl) (by kernel_rfl) (by kernel_rfl) ⟨⟨⟨0, rfl⟩, ⟨1, rfl⟩, trivial⟩, trivial, trivial⟩ (fun _ _ _ h => h) ?_
          refine VA.va (i := 5) (listed' := LB 9 63) rfl (op_move rfl (ltn rfl)) rfl (by kernel_rfl) (by kernel_rfl) (by kernel_rfl) (by kernel_rfl) ⟨⟨⟨0, rfl⟩, ⟨1, rfl⟩, trivial⟩, trivial, trivial⟩ (fun _ _ _ h => h) ?_
          refine VA.va (i := 6) (listed' := LB 9 127) rfl (op_indexAddr Try.underlying22 TI24 rfl rfl c3577 (lt_get c3577 hx3579) rfl (ltn rfl)) rfl (by kernel_rfl) (by kernel_rfl) (by kernel_rfl) (by kernel_rfl) ⟨⟨⟨0, rfl⟩, ⟨1, rfl⟩, trivial⟩, trivial, trivial⟩ (fun _ _ _ h => h) ?_
          refine VA.va (i := 7) (listed' := LB 9 255) rfl (op_load_row (o := 0) 1 i3555.toNat 3 rfl rfl (get_map hx3579) TI24 rfl (fun h => absurd h (by decide)) (ltn rfl)) rfl (by kernel_rfl) (by kernel_rfl) (by kernel_rfl) (by kernel_rfl) ⟨⟨⟨0, rfl⟩, ⟨1, rfl⟩, trivial⟩, trivial, trivial⟩ (fun _ _ _ h => h) ?_
          refine VA.va (i := 8) (listed' := LB 9 511) rfl (op_neS rfl rfl EG24 (EQ24 x3578.f0 x3578.f1 x3578.f2 x3579.f0 x3579.f1 x3579.f2) hb3580 (ltn rfl)) rfl (by kernel_rfl) (by kernel_rfl) (by kernel_rfl) (by kernel_rfl) ⟨⟨⟨0, rfl⟩, ⟨1, rfl⟩, trivial⟩, trivial, trivial⟩ (fun _ _ _ h => h) ?_
          refine VA.done (by kernel_rfl) ?_
          exact VN.meet0  [] [] trivial ⟨rfl, ⟨rfl, rfl, rfl, rfl, rfl, rfl, rfl, rfl, rfl, rfl, rfl, rfl, rfl, rfl, rfl, trivial⟩, ⟨⟨0, rfl⟩, ⟨1, rfl⟩, trivial⟩, rfl, by decide, rfl, by decide⟩
        intro _
        by_cases c3581 : (((x3578.f0 == x3579.f0) && ((x3578.f1 == x3579.f1) && (x3578.f2 == x3579.f2)))) = true
        · rw [if_pos c3581] at h
          obtain rfl : b3580 = false := hb3580.symm.trans (not_t c3581)
          refine VC.cond_f rfl ?_
          refine VC.skip ?_
          refine VN.block ?_
          refine VN.then ?_
          refine VC.region ?_
          refine VL.va (op_ari64 rfl rfl rfl (ltn rfl)) rfl ?_
          refine VL.va (op_move rfl (ltn rfl)) rfl ?_
          refine VL.done ?_
          refine VN.again [] [] (ihl1 (wrap64 (i3555 + 1)) h) ⟨rfl, ⟨rfl, rfl, rfl, rfl, rfl, trivial⟩, ⟨⟨0, rfl⟩, ⟨1, rfl⟩, trivial⟩, rfl, by decide, rfl, by decide⟩
        · rw [if_neg c3581] at h
          obtain rfl : b3580 = true := hb3580.symm.trans (not_f c3581)
          refine VC.cond_t rfl ?_
          refine VC.seq ?_
          refine VC.region ?_
          refine VL.va (op_assign rfl (ltn rfl)) rfl ?_
          refine VL.done ?_
          refine VN.then ?_
          refine VC.ret ?_
          refine VR.block ?_
          refine VR.then ?_
          refine VR.then ?_
          refine VR.block ?_
          refine VR.then ?_
          obtain rfl := Option.some.inj h
          exact VR.fn (rs := [.tmp 4]) [] [] [] rfl (.tmp rfl .nil) ⟨rfl, rfl, rfl⟩ trivial rfl (by decide)
      · rw [if_neg c3577] at h; cases h
    · rw [if_neg c3571] at h
      obtain rfl : b3569 = false := hb3569.symm.trans (decide_eq_false c3571)
      refine VC.cond_f rfl ?_
      refine VC.exit ?_
      refine VX.then ?_
      refine VX.then ?_
      refine VX.hit ?_
      refine VN.then ?_
      refine VC.seq ?_
      refine VC.region ?_
      refine VL.va (op_assign rfl (ltn rfl)) rfl ?_
      refine VL.done ?_
      refine VN.then ?_
      refine VC.ret ?_
      obtain rfl := Option.some.inj h
      exact VR.fn (rs := [.tmp 4]) [] [] [] rfl (.tmp rfl .nil) ⟨rfl, rfl, rfl⟩ trivial rfl (by decide)
  · rw [if_neg c3501] at h
    obtain rfl : b3500 = true := hb3500.symm.trans (bne_iff_ne.2 c3501)
    refine VC.cond_t rfl ?_
    refine VC.seq ?_
    refine VC.region ?_
    refine VL.va (op_assign rfl (ltn rfl)) rfl ?_
    refine VL.done ?_
    refine VN.then ?_
    refine VC.ret ?_
    refine VR.then ?_
    obtain rfl := Option.some.inj h
    exact VR.fn (rs := [.tmp 4]) [] [] [] rfl (.tmp rfl .nil) ⟨rfl, rfl, rfl⟩ trivial rfl (by decide)
set_option maxHeartbeats 4000000 in
set_option maxRecDepth 100000 in
theorem tarryref10_Due.ok (k : Nat) (l0 : List S23) (a1 : Int) (a2 : Bool) (v0 : Value) (r1 : List S23) (h : tarryref10_Due.f k l0 a1 a2 = some r1) :
    VCalls Try.prog 16 [v0, .int .i64 a1, .bool a2] [.row v0 3 (l0.map enc23)] (fun v G own => ∃ w0 : Value, v = w0 ∧ G = [] ∧ own = [(w0, 24, 3, r1.map enc23)]) := by
  refine VCalls.intro Try.func16 rfl (len rfl) fun E hC => ?_
  unfold tarryref10_Due.f at h
  refine VC.seq ?_
  refine VC.region ?_
  refine VL.va (op_assign rfl (ltn rfl)) rfl ?_
  refine VL.done ?_
  refine VN.then ?_
  refine VC.seq ?_
  refine VC.region ?_
  refine VL.sG (o_buildSlice (vals := []) (cells := #[]) (es := List.map enc23 ([] : List S23)) Try.underlying22 TI24 Z24 rfl (by decide) (by decide) (by kernel_rfl) (by kernel_rfl) rfl (flat_map enc23_ok _) (ltn rfl)) rfl ?_
  intro v3589
  refine VL.va (op_assign rfl (ltn rfl)) rfl ?_
  refine VL.done ?_
  refine VN.then ?_
  refine VC.seq ?_
  refine VC.seq ?_
  refine VC.region ?_
  refine VL.va (op_move rfl (ltn rfl)) rfl ?_
  refine VL.va (op_len (m := l0.length) 0 lenm Try.underlying22 rfl rfl (ltn rfl)) rfl ?_
  refine VL.va (op_move rfl (ltn rfl)) rfl ?_
  refine VL.done ?_
  refine VN.then ?_
  refine VC.block ?_
  refine VC.loop3 (fun (v3707 : Value) (l3708 : List S23) (i3709 : Int) => ⟨29, [(1, .int .i64 a1), (2, .bool a2), (6, .slice none 0 0), (7, v3707), (11, v0), (12, .int .i64 (l0.length : Int)), (13, .int .i64 i3709)], [.row v0 3 (l0.map enc23)], [], [(v3707, 24, 3, l3708.map enc23)]⟩) (fun (ml1 : Nat) (v3707 : Value) (l3708 : List S23) (i3709 : Int) => tarryref10_Due.l1 k a1 a2 l0 ml1 l3708 i3709 = some r1) k v3589 ([] : List S23) 0 [] [0] h ⟨rfl, ⟨rfl, rfl, rfl, rfl, rfl, rfl, rfl, trivial⟩, ⟨⟨0, rfl⟩, trivial⟩, rfl, by decide, rfl, by decide⟩ (by intros; simp [tarryref10_Due.l1]) ?_
  clear h
  intro ml1 ihl1 v3707 l3708 i3709 h
  simp only [tarryref10_Due.l1] at h
  refine VC.seq ?_
  refine VC.region ?_
  refine VL.letter (decide (i3709 < (l0.length : Int))) fun b3739 hb3739 => ?_
  refine VL.va (op_cmp rfl rfl (congrArg some hb3739) (ltn rfl)) rfl ?_
  refine VL.done ?_
  refine VN.then ?_
  refine VC.seq ?_
  by_cases c3741 : i3709 < (l0.length : Int)
  · rw [if_pos c3741] at h
    obtain rfl : b3739 = true := hb3739.symm.trans (decide_eq_true c3741)
    refine VC.cond_t rfl ?_
    refine VC.skip ?_
    refine VN.then ?_
    refine VC.seq ?_
    refine VC.block ?_
    refine VC.seq ?_
    refine VC.region ?_
    by_cases c3755 : 0 ≤ i3709
    · rw [if_pos c3755] at h
      replace h := Option.bind_eq_some_iff.1 h
      obtain ⟨x3756, hx3756, h⟩ := h
      refine VL.open (m := l0.length) 0 lenm rfl (pos_get hx3756) ?_
      rintro ad3757 n3758 rfl
      refine VL.va (op_indexAddr Try.underlying22 TI24 rfl rfl c3755 (lt_get c3755 hx3756) rfl (ltn rfl)) rfl ?_
      refine VL.va (op_load_row (o := 0) 0 i3709.toNat 3 rfl rfl (get_map hx3756) TI24 rfl (fun h => absurd h (by decide)) (ltn rfl)) rfl ?_
      refine VL.sG (o_alloc (us := [.int .i64 0, .int .i64 0, .int .i64 0]) Z24 rfl (ltn rfl)) rfl ?_
      intro g3759
      refine VL.step1 (o_store 0 3 rfl rfl rfl TI24 (.agg (.c rfl (.c rfl (.c rfl .nil)))) rfl (len rfl)) rfl ?_
      refine VL.done ?_
      refine VN.then ?_
      refine VC.seq ?_
      refine VC.region ?_
      refine VL.va (op_fieldAddr FI24_0 rfl (add_at _ _ _) (ltn rfl)) rfl ?_
      refine VL.va (op_load 0 1 rfl rfl TI3 rfl (by decide) (ltn rfl)) rfl ?_
      refine VL.va (op_move rfl (ltn rfl)) rfl ?_
      refine VL.letter (decide (x3756.f0 ≤ a1)) fun b3760 hb3760 => ?_
      refine VL.va (op_cmp rfl rfl (congrArg some hb3760) (ltn rfl)) rfl ?_
      refine VL.va (op_move rfl (ltn rfl)) rfl ?_
      subst hb3760
      refine VL.letter (((decide (x3756.f0 ≤ a1)) == a2)) fun b3761 hb3761 => ?_
      refine VL.va (op_eqb Try.underlying4 rfl rfl (congrArg some hb3761) (ltn rfl)) rfl ?_
      refine VL.done ?_
      refine VN.then ?_
      by_cases c3762 : (decide (x3756.f0 ≤ a1)) = a2
      · rw [if_pos c3762] at h
        obtain rfl : b3761 = true := hb3761.symm.trans (beq_iff_eq.2 c3762)
        refine VC.cond_t rfl ?_
        refine VC.region ?_
        refine VL.va (op_move rfl (ltn rfl)) rfl ?_
        refine VL.va (op_load 0 3 rfl rfl TI24 rfl (fun h => absurd h (by decide)) (ltn rfl)) rfl ?_
        refine VL.sG (o_buildSlice (vals := [(0, .agg #[.int .i64 x3756.f0, .int .i64 x3756.f1, .int .i64 x3756.f2])]) (cells := #[.int .i64 x3756.f0, .int .i64 x3756.f1, .int .i64 x3756.f2]) (es := List.map enc23 ([x3756] : List S23)) Try.underlying22 TI24 Z24 rfl (by decide) (by decide) (by kernel_rfl) (by kernel_rfl) rfl (flat_map enc23_ok _) (ltn rfl)) rfl ?_
        intro v3764
        by_cases c3765 : (l3708.length + ([x3756] : List S23).length) * 24 ≤ 140737488355328
        · rw [if_pos c3765] at h
          refine VL.sG (o_append 1 appm Try.underlying22 EI24 rfl rfl rfl (.inr ⟨0, _, rfl⟩) (bndm c3765) (ltn rfl)) rfl ?_
          intro v3766
          refine VL.va (op_assign rfl (ltn rfl)) rfl ?_
          refine VL.done ?_
          refine VN.block ?_
          refine VN.then ?_
          refine VC.region ?_
          refine VL.va (op_ari64 rfl rfl rfl (ltn rfl)) rfl ?_
          refine VL.va (op_move rfl (ltn rfl)) rfl ?_
          refine VL.done ?_
          refine VN.again [] [1] (ihl1 v3766 (l3708 ++ ([x3756] : List S23)) (wrap64 (i3709 + 1)) h) ⟨rfl, ⟨rfl, rfl, rfl, rfl, rfl, rfl, rfl, trivial⟩, ⟨⟨0, rfl⟩, trivial⟩, rfl, by decide, rfl, by decide⟩
        · rw [if_neg c3765] at h; cases h
      · rw [if_neg c3762] at h
        obtain rfl : b3761 = false := hb3761.symm.trans (beq_eq_false_iff_ne.2 c3762)
        refine VC.cond_f rfl ?_
        refine VC.skip ?_
        refine VN.block ?_
        refine VN.then ?_
        refine VC.region ?_
        refine VL.va (op_ari64 rfl rfl rfl (ltn rfl)) rfl ?_
        refine VL.va (op_move rfl (ltn rfl)) rfl ?_
        refine VL.done ?_
        refine VN.again [] [0] (ihl1 v3707 l3708 (wrap64 (i3709 + 1)) h) ⟨rfl, ⟨rfl, rfl, rfl, rfl, rfl, rfl, rfl, trivial⟩, ⟨⟨0, rfl⟩, trivial⟩, rfl, by decide, rfl, by decide⟩
    · rw [if_neg c3755] at h; cases h
  · rw [if_neg c3741] at h
    obtain rfl : b3739 = false := hb3739.symm.trans (decide_eq_false c3741)
    refine VC.cond_f rfl ?_
    refine VC.exit ?_
    refine VX.then ?_
    refine VX.then ?_
    refine VX.hit ?_
    refine VN.then ?_
    refine VC.seq ?_
    refine VC.region ?_
    refine VL.va (op_move rfl (ltn rfl)) rfl ?_
    refine VL.va (op_assign rfl (ltn rfl)) rfl ?_
    refine VL.done ?_
    refine VN.then ?_
    refine VC.ret ?_
    obtain rfl := Option.some.inj h
    exact VR.fn (rs := [.tmp 6]) [] [(v3707, 24, 3, l3708.map enc23)] [0] rfl (.tmp rfl .nil) ⟨v3707, rfl, rfl, rfl⟩ trivial rfl (by decide)

end Go.Proofs.Ytmcfgahjchkgaaa.PTimerSets
