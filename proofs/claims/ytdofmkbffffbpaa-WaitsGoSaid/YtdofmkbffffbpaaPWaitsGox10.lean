/- Written by a program of this repo: what the program's functions do, each as a Lean function, shown of the loaded code; or a statement's row over that; no condition of its own. -/
import Derived.Test.YtdofmkbffffbpaaPWaitsGox9
namespace Go.Proofs.Ytdofmkbffffbpaa.PWaitsGo
open Go Go.RowKit Go.Proofs.YtdofmkbffffbpaaV
set_option linter.unusedVariables false
set_option linter.unusedSimpArgs false

set_option maxHeartbeats 4000000 in
set_option maxRecDepth 100000 in
theorem tarrylaw09_WaitsGo.ok (k : Nat) (l0 : List S25) (a1 : Int) (a2 : Int) (a3 : ByteArray) (v0 : Value) (r1 : Bool) (h : tarrylaw09_WaitsGo.f k l0 a1 a2 a3 = some r1) :
    VCalls Try.prog 6 [v0, .int .i64 a1, .int .i64 a2, .string a3] [.row v0 4 (l0.map enc25)] (fun v G own => v = .bool r1 ∧ G = [] ∧ own = []) := by
  refine VCalls.intro Try.func6 rfl (len rfl) fun E hC hW hD hU => ?_
  unfold tarrylaw09_WaitsGo.f at h
  refine VC.seq ?_
  refine VC.region ?_
  refine VL.va (op_assign rfl (ltn rfl)) rfl ?_
  refine VL.done ?_
  refine VN.then ?_
  replace h := Option.bind_eq_some_iff.1 h
  obtain ⟨r133, hA134, h⟩ := h
  by_cases c137 : 0 ≤ mn (a3.size : Int) 18
  · rw [if_pos c137] at h
    by_cases c138 : (mn (a3.size : Int) 18) ≤ (a3.size : Int)
    · rw [if_pos c138] at h
      refine VC.join1 (fun (v136 : Value) => ⟨179, [(0, v136), (1, .int .i64 a1), (2, .int .i64 a2), (3, .string (a3.extract 0 ((mn (a3.size : Int) 18).toNat))), (8, .bool false)], [], [], [(v136, 26, 4, r133.map enc25)]⟩) (fun (v136 : Value) => True) ?_ ?_
      · refine VC.draw ⟨0, [], [], [], []⟩ (by kernel_rfl) rfl (by kernel_rfl) (n := 9) (listed := LB 9 0) ?_
        refine VA.more ⟨0, [], [.row v0 4 (l0.map enc25)], [], []⟩ ⟨trivial, trivial, trivial⟩ ?_
        refine VA.va (i := 0) (listed' := LB 9 1) rfl (op_move rfl (ltn rfl)) rfl (by kernel_rfl) (by kernel_rfl) (by kernel_rfl) (by kernel_rfl) ⟨⟨⟨0, rfl⟩, trivial⟩, trivial, trivial⟩ (fun _ _ _ h => h) ?_
        refine VA.va (i := 2) (listed' := LB 9 5) rfl (op_move rfl (ltn rfl)) rfl (by kernel_rfl) (by kernel_rfl) (by kernel_rfl) (by kernel_rfl) ⟨⟨⟨0, rfl⟩, trivial⟩, trivial, trivial⟩ (fun _ _ _ h => h) ?_
        refine VA.va (i := 3) (listed' := LB 9 13) rfl (op_move rfl (ltn rfl)) rfl (by kernel_rfl) (by kernel_rfl) (by kernel_rfl) (by kernel_rfl) ⟨⟨⟨0, rfl⟩, trivial⟩, trivial, trivial⟩ (fun _ _ _ h => h) ?_
        refine VA.va (i := 4) (listed' := LB 9 29) rfl (op_lens Try.underlying9 rfl (ltn rfl)) rfl (by kernel_rfl) (by kernel_rfl) (by kernel_rfl) (by kernel_rfl) ⟨⟨⟨0, rfl⟩, trivial⟩, trivial, trivial⟩ (fun _ _ _ h => h) ?_
        refine VA.va (i := 5) (listed' := LB 9 61) rfl (op_min rfl rfl (ltn rfl)) rfl (by kernel_rfl) (by kernel_rfl) (by kernel_rfl) (by kernel_rfl) ⟨⟨⟨0, rfl⟩, trivial⟩, trivial, trivial⟩ (fun _ _ _ h => h) ?_
        refine VA.va (i := 6) (listed' := LB 9 125) rfl (op_sliceS 0 ((mn (a3.size : Int) 18).toNat) Try.underlying9 rfl ⟨rfl, ⟨_, _, rfl, c137, rfl⟩, by omega, by omega⟩ rfl (ltn rfl)) rfl (by kernel_rfl) (by kernel_rfl) (by kernel_rfl) (by kernel_rfl) ⟨⟨⟨0, rfl⟩, trivial⟩, trivial, trivial⟩ (fun _ _ _ h => h) ?_
        refine VA.oneC (i := 1) (listed' := LB 9 127) (by kernel_rfl) rfl (o_call0 FO7 (tarrylaw09_few.ok k l0 v0 r133 hA134) rfl rfl (ltn rfl) (All_of (.cons (List.mem_of_getElem? (i := 0) rfl) .nil))) rfl (by kernel_rfl) ?_
        rintro v136 _ _ ⟨_, rfl, rfl, rfl⟩
        refine ⟨⟨⟨⟨0, rfl⟩, trivial⟩, trivial, trivial⟩, ?_⟩
        refine VA.more ⟨0, [], [.row v0 4 (l0.map enc25)], [], [(v136, 26, 4, r133.map enc25)]⟩ ⟨⟨⟨0, rfl⟩, trivial⟩, trivial, trivial⟩ ?_
        refine VA.va (i := 7) (listed' := LB 9 255) rfl (op_assign rfl (ltn rfl)) rfl (by kernel_rfl) (by kernel_rfl) (by kernel_rfl) (by kernel_rfl) ⟨⟨⟨0, rfl⟩, trivial⟩, trivial, ⟨⟨0, rfl⟩, trivial⟩⟩ (fun _ _ _ h => h) ?_
        refine VA.va (i := 8) (listed' := LB 9 511) rfl (op_assign rfl (ltn rfl)) rfl (by kernel_rfl) (by kernel_rfl) (by kernel_rfl) (by kernel_rfl) ⟨⟨⟨0, rfl⟩, trivial⟩, trivial, ⟨⟨0, rfl⟩, trivial⟩⟩ (fun _ _ _ h => h) ?_
        refine VA.done (by kernel_rfl) ?_
        exact VN.meet1 v136 [] [0] trivial ⟨rfl, ⟨rfl, rfl, rfl, rfl, rfl, trivial⟩, trivial, rfl, by decide, rfl, by decide⟩
      intro v136 _
      refine VC.seq ?_
      refine VC.region ?_
      refine VL.va (op_move rfl (ltn rfl)) rfl ?_
      refine VL.va (op_move rfl (ltn rfl)) rfl ?_
      replace h := Option.bind_eq_some_iff.1 h
      obtain ⟨⟨r2338, t2339⟩, hA2340, h⟩ := h
      dsimp only at h
      refine VL.sC (o_call_b0 FO24 (waits_Drop.ok k r133 a1 v136 r2338 t2339 hA2340) rfl rfl (ltn rfl) (All_of (.cons (.inr (.inl ⟨_, List.mem_of_getElem? (i := 0) rfl, rfl⟩)) .nil)) (by rintro _ _ _ ⟨v2342, rfl, rfl, rfl⟩; rfl)) rfl ?_
      rintro _ _ _ ⟨v2342, rfl, rfl, rfl⟩
      refine VL.va (op_move rfl (ltn rfl)) rfl ?_
      refine VL.va (op_extract rfl rfl (ltn rfl)) rfl ?_
      refine VL.va (op_extract rfl rfl (ltn rfl)) rfl ?_
      refine VL.va (op_assign rfl (ltn rfl)) rfl ?_
      refine VL.va (op_assign rfl (ltn rfl)) rfl ?_
      refine VL.done ?_
      refine VN.then ?_
      refine VC.seq ?_
      refine VC.region ?_
      refine VL.va (op_move rfl (ltn rfl)) rfl ?_
      refine VL.va (op_move rfl (ltn rfl)) rfl ?_
      refine VL.va (op_move rfl (ltn rfl)) rfl ?_
      replace h := Option.bind_eq_some_iff.1 h
      obtain ⟨⟨r2408, t2409⟩, hA2410, h⟩ := h
      dsimp only at h
      refine VL.sC (o_call_b0 FO20 (waits_Move.ok k r133 a1 a2 v136 r2408 t2409 hA2410) rfl rfl (ltn rfl) (All_of (.cons (.inr (.inl ⟨_, List.mem_of_getElem? (i := 1) rfl, rfl⟩)) .nil)) (by rintro _ _ _ ⟨v2412, rfl, rfl, rfl⟩; rfl)) rfl ?_
      rintro _ _ _ ⟨v2412, rfl, rfl, rfl⟩
      refine VL.va (op_move rfl (ltn rfl)) rfl ?_
      refine VL.va (op_extract rfl rfl (ltn rfl)) rfl ?_
      refine VL.va (op_extract rfl rfl (ltn rfl)) rfl ?_
      refine VL.va (op_assign rfl (ltn rfl)) rfl ?_
      refine VL.va (op_assign rfl (ltn rfl)) rfl ?_
      refine VL.done ?_
      refine VN.then ?_
      refine VC.seq ?_
      refine VC.region ?_
      refine VL.va (op_move rfl (ltn rfl)) rfl ?_
      refine VL.va (op_move rfl (ltn rfl)) rfl ?_
      replace h := Option.bind_eq_some_iff.1 h
      obtain ⟨⟨t2426, t2427, t2428, t2429, t2430⟩, hA2431, h⟩ := h
      dsimp only at h
      refine VL.sC (o_call_b0 FO21 (waits_Find.ok k r133 a1 v136 t2426 t2427 t2428 t2429 t2430 hA2431) rfl rfl (ltn rfl) (All_of (.cons (.inr (.inl ⟨_, List.mem_of_getElem? (i := 2) rfl, rfl⟩)) .nil)) (by rintro _ _ _ ⟨rfl, rfl, rfl⟩; rfl)) rfl ?_
      rintro _ _ _ ⟨rfl, rfl, rfl⟩
      refine VL.va (op_move rfl (ltn rfl)) rfl ?_
      refine VL.va (op_extract rfl rfl (ltn rfl)) rfl ?_
      refine VL.va (op_extract rfl rfl (ltn rfl)) rfl ?_
      refine VL.sG (o_alloc Z26 ZL26 (ltn rfl)) rfl ?_
      intro g2432
      refine VL.step1 (o_store 0 4 rfl rfl rfl TI26 (.agg (.of rfl)) rfl (len rfl)) rfl ?_
      refine VL.va (op_assign rfl (ltn rfl)) rfl ?_
      refine VL.done ?_
      refine VN.then ?_
      refine VC.seq ?_
      refine VC.region ?_
      refine VL.va (op_move rfl (ltn rfl)) rfl ?_
      refine VL.va (op_move rfl (ltn rfl)) rfl ?_
      replace h := Option.bind_eq_some_iff.1 h
      obtain ⟨⟨r2620, t2621⟩, hA2622, h⟩ := h
      dsimp only at h
      refine VL.sC (o_call_b0 FO22 (waits_Of.ok k r133 (a3.extract 0 ((mn (a3.size : Int) 18).toNat)) v136 r2620 t2621 hA2622) rfl rfl (ltn rfl) (All_of (.cons (.inr (.inl ⟨_, List.mem_of_getElem? (i := 2) rfl, rfl⟩)) .nil)) (by rintro _ _ _ ⟨v2624, rfl, rfl, rfl⟩; rfl)) rfl ?_
      rintro _ _ _ ⟨v2624, rfl, rfl, rfl⟩
      refine VL.va (op_move rfl (ltn rfl)) rfl ?_
      refine VL.va (op_extract rfl rfl (ltn rfl)) rfl ?_
      refine VL.va (op_extract rfl rfl (ltn rfl)) rfl ?_
      refine VL.va (op_assign rfl (ltn rfl)) rfl ?_
      refine VL.va (op_assign rfl (ltn rfl)) rfl ?_
      refine VL.done ?_
      refine VN.then ?_
      refine VC.seq ?_
      refine VC.seq ?_
      refine VC.region ?_
      replace h := Option.bind_eq_some_iff.1 h
      obtain ⟨t2666, hA2667, h⟩ := h
      refine VL.sC (o_call0 FO13 (tarrylaw09_alive.ok k t2666 hA2667) rfl rfl (ltn rfl) (All_of .nil)) rfl ?_
      rintro _ _ _ ⟨rfl, rfl, rfl⟩
      by_cases c2668 : t2666 = true
      · rw [if_pos c2668] at h
        obtain rfl := c2668
        refine VL.va (op_not rfl rfl (ltn rfl)) rfl ?_
        refine VL.done ?_
        refine VN.then ?_
        refine VC.cond_f rfl ?_
        refine VC.skip ?_
        refine VN.then ?_
        refine VC.seq ?_
        refine VC.join1 (fun (q6842 : Bool) => ⟨179, [(0, v136), (1, .int .i64 a1), (2, .int .i64 a2), (3, .string (a3.extract 0 ((mn (a3.size : Int) 18).toNat))), (8, .bool false), (9, v2342), (10, .int .i64 t2339), (11, v2412), (12, .int .i64 t2409), (13, .pointer (some ⟨g2432, 0, none⟩)), (14, .int .i64 t2430), (15, v2624), (16, .int .i64 t2621), (55, .bool q6842)], [], [(g2432, 26, [.string t2426, .int .i64 t2427, .int .i64 t2428, .int .i64 t2429])], [(v136, 26, 4, r133.map enc25), (v2342, 26, 4, r2338.map enc25), (v2412, 26, 4, r2408.map enc25), (v2624, 24, 3, r2620.map enc23)]⟩) (fun (q6842 : Bool) => tarrylaw09_WaitsGo.j2 k a1 a2 a3 r133 r2338 r2408 r2620 t2339 t2409 t2426 t2427 t2428 t2429 t2430 t2621 q6842 = some r1) ?_ ?_
        · refine VC.region ?_
          refine VL.va (op_move rfl (ltn rfl)) rfl ?_
          replace h := Option.bind_eq_some_iff.1 h
          obtain ⟨t6839, hA6840, h⟩ := h
          refine VL.sC (o_call_b0 FO12 (tarryref09_Right.ok k r133 v136 t6839 hA6840) rfl rfl (ltn rfl) (All_of (.cons (.inr (.inl ⟨_, List.mem_of_getElem? (i := 3) rfl, rfl⟩)) .nil)) (by rintro _ _ _ ⟨rfl, rfl, rfl⟩; rfl)) rfl ?_
          rintro _ _ _ ⟨rfl, rfl, rfl⟩
          by_cases c6841 : t6839 = true
          · rw [if_pos c6841] at h
            obtain rfl := c6841
            refine VL.va (op_not rfl rfl (ltn rfl)) rfl ?_
            refine VL.done ?_
            refine VN.meet1 false [0] [3, 2, 1, 0] h ⟨rfl, ⟨rfl, rfl, rfl, rfl, rfl, rfl, rfl, rfl, rfl, rfl, rfl, rfl, rfl, rfl, trivial⟩, trivial, rfl, by decide, rfl, by decide⟩
          · rw [if_neg c6841] at h
            obtain rfl := Bool.eq_false_iff.2 c6841
            refine VL.va (op_not rfl rfl (ltn rfl)) rfl ?_
            refine VL.done ?_
            refine VN.meet1 true [0] [3, 2, 1, 0] h ⟨rfl, ⟨rfl, rfl, rfl, rfl, rfl, rfl, rfl, rfl, rfl, rfl, rfl, rfl, rfl, rfl, trivial⟩, trivial, rfl, by decide, rfl, by decide⟩
        clear h
        intro q6842 h
        unfold tarrylaw09_WaitsGo.j2 at h
        by_cases c6843 : q6842 = true
        · rw [if_pos c6843] at h
          obtain rfl := c6843
          refine VC.cond_t rfl ?_
          refine VC.seq ?_
          refine VC.region ?_
          refine VL.va (op_move rfl (ltn rfl)) rfl ?_
          refine VL.letter ((t2339 == 1)) fun b6855 hb6855 => ?_
          refine VL.va (op_cmp rfl rfl (congrArg some hb6855) (ltn rfl)) rfl ?_
          refine VL.va (op_move rfl (ltn rfl)) rfl ?_
          by_cases c6856 : t2339 = 1
          · rw [if_pos c6856] at h
            obtain rfl : b6855 = true := hb6855.symm.trans (beq_iff_eq.2 c6856)
            refine VL.va (op_move rfl (ltn rfl)) rfl ?_
            refine VL.letter ((t2409 == 1)) fun b6857 hb6857 => ?_
            refine VL.va (op_cmp rfl rfl (congrArg some hb6857) (ltn rfl)) rfl ?_
            refine VL.va (op_pick rfl rfl (ltn rfl)) rfl ?_
            refine VL.va (op_move rfl (ltn rfl)) rfl ?_
            by_cases c6858 : t2409 = 1
            · rw [if_pos c6858] at h
              obtain rfl : b6857 = true := hb6857.symm.trans (beq_iff_eq.2 c6858)
              refine VL.va (op_move rfl (ltn rfl)) rfl ?_
              refine VL.letter ((t2430 == 1)) fun b6859 hb6859 => ?_
              refine VL.va (op_cmp rfl rfl (congrArg some hb6859) (ltn rfl)) rfl ?_
              refine VL.va (op_pick rfl rfl (ltn rfl)) rfl ?_
              refine VL.va (op_move rfl (ltn rfl)) rfl ?_
              by_cases c6860 : t2430 = 1
              · rw [if_pos c6860] at h
                obtain rfl : b6859 = true := hb6859.symm.trans (beq_iff_eq.2 c6860)
                refine VL.va (op_move rfl (ltn rfl)) rfl ?_
                refine VL.letter ((t2621 == 1)) fun b6861 hb6861 => ?_
                refine VL.va (op_cmp rfl rfl (congrArg some hb6861) (ltn rfl)) rfl ?_
                refine VL.va (op_pick rfl rfl (ltn rfl)) rfl ?_
                refine VL.va (op_move rfl (ltn rfl)) rfl ?_
                by_cases c6862 : t2621 = 1
                · rw [if_pos c6862] at h
                  obtain rfl : b6861 = true := hb6861.symm.trans (beq_iff_eq.2 c6862)
                  refine VL.va (op_move rfl (ltn rfl)) rfl ?_
                  refine VL.va (op_len_own (m := r2338.length) 1 lenm Try.underlying22 rfl rfl (ltn rfl)) rfl ?_
                  refine VL.va (op_move rfl (ltn rfl)) rfl ?_
                  refine VL.va (op_len_own (m := r2408.length) 2 lenm Try.underlying22 rfl rfl (ltn rfl)) rfl ?_
                  refine VL.va (op_ari64 rfl rfl rfl (ltn rfl)) rfl ?_
                  refine VL.va (op_move rfl (ltn rfl)) rfl ?_
                  refine VL.va (op_len_own (m := r2620.length) 3 lenm Try.underlying42 rfl rfl (ltn rfl)) rfl ?_
                  refine VL.va (op_ari64 rfl rfl rfl (ltn rfl)) rfl ?_
                  refine VL.letter (((wrap64 ((wrap64 ((r2338.length : Int) + (r2408.length : Int))) + (r2620.length : Int))) == 0)) fun b6863 hb6863 => ?_
                  refine VL.va (op_cmp rfl rfl (congrArg some hb6863) (ltn rfl)) rfl ?_
                  refine VL.va (op_pick rfl rfl (ltn rfl)) rfl ?_
                  refine VL.va (op_move rfl (ltn rfl)) rfl ?_
                  by_cases c6864 : (wrap64 ((wrap64 ((r2338.length : Int) + (r2408.length : Int))) + (r2620.length : Int))) = 0
                  · rw [if_pos c6864] at h
                    obtain rfl : b6863 = true := hb6863.symm.trans (beq_iff_eq.2 c6864)
                    refine VL.va (op_load 0 4 rfl rfl TI26 rfl (fun h => absurd h (by decide)) (ltn rfl)) rfl ?_
                    refine VL.va (op_build (vals := []) (vcs := []) (cells := [.string (⟨#[]⟩ : ByteArray), .int .i64 0, .int .i64 0, .int .i64 0]) SI26 rfl .nil (by kernel_rfl) (ltn rfl)) rfl ?_
                    refine VL.letter ((((t2426 == (⟨#[]⟩ : ByteArray)) && ((t2427 == 0) && ((t2428 == 0) && (t2429 == 0)))))) fun b6865 hb6865 => ?_
                    refine VL.va (op_eqS rfl rfl EG26 (EQ26 t2426 t2427 t2428 t2429 (⟨#[]⟩ : ByteArray) 0 0 0) hb6865 (ltn rfl)) rfl ?_
                    refine VL.va (op_pick rfl rfl (ltn rfl)) rfl ?_
                    refine VL.va (op_assign rfl (ltn rfl)) rfl ?_
                    refine VL.done ?_
                    refine VN.then ?_
                    refine VC.ret ?_
                    refine VR.then ?_
                    obtain rfl := Option.some.inj h
                    subst hb6865
                    exact VR.fn (rs := [.tmp 8]) [] [] [] rfl (.tmp rfl .nil) ⟨rfl, rfl, rfl⟩ trivial rfl (by decide)
                  · rw [if_neg c6864] at h
                    obtain rfl : b6863 = false := hb6863.symm.trans (beq_eq_false_iff_ne.2 c6864)
                    refine VL.un rfl rfl (ltn rfl) ?_
                    refine VL.un rfl rfl (ltn rfl) ?_
                    refine VL.un rfl rfl (ltn rfl) ?_
                    refine VL.va (op_pick rfl rfl (ltn rfl)) rfl ?_
                    refine VL.va (op_assign rfl (ltn rfl)) rfl ?_
                    refine VL.done ?_
                    refine VN.then ?_
                    refine VC.ret ?_
                    refine VR.then ?_
                    cases h
                · rw [if_neg c6862] at h
                  obtain rfl : b6861 = false := hb6861.symm.trans (beq_eq_false_iff_ne.2 c6862)
                  refine VL.un rfl rfl (ltn rfl) ?_
                  refine VL.un rfl rfl (ltn rfl) ?_
                  refine VL.un rfl rfl (ltn rfl) ?_
                  refine VL.un rfl rfl (ltn rfl) ?_
                  refine VL.un rfl rfl (ltn rfl) ?_
                  refine VL.un rfl rfl (ltn rfl) ?_
                  refine VL.un rfl rfl (ltn rfl) ?_
                  refine VL.un rfl rfl (ltn rfl) ?_
                  refine VL.un rfl rfl (ltn rfl) ?_
                  refine VL.va (op_pick rfl rfl (ltn rfl)) rfl ?_
                  refine VL.va (op_move rfl (ltn rfl)) rfl ?_
                  refine VL.un rfl rfl (ltn rfl) ?_
                  refine VL.un rfl rfl (ltn rfl) ?_
                  refine VL.un rfl rfl (ltn rfl) ?_
                  refine VL.va (op_pick rfl rfl (ltn rfl)) rfl ?_
                  refine VL.va (op_assign rfl (ltn rfl)) rfl ?_
                  refine VL.done ?_
                  refine VN.then ?_
                  refine VC.ret ?_
                  refine VR.then ?_
                  cases h
              · rw [if_neg c6860] at h
                obtain rfl : b6859 = false := hb6859.symm.trans (beq_eq_false_iff_ne.2 c6860)
                refine VL.un rfl rfl (ltn rfl) ?_
                refine VL.un rfl rfl (ltn rfl) ?_
                refine VL.va (op_pick rfl rfl (ltn rfl)) rfl ?_
                refine VL.va (op_move rfl (ltn rfl)) rfl ?_
                refine VL.un rfl rfl (ltn rfl) ?_
                refine VL.un rfl rfl (ltn rfl) ?_
                refine VL.un rfl rfl (ltn rfl) ?_
                refine VL.un rfl rfl (ltn rfl) ?_
                refine VL.un rfl rfl (ltn rfl) ?_
                refine VL.un rfl rfl (ltn rfl) ?_
                refine VL.un rfl rfl (ltn rfl) ?_
                refine VL.un rfl rfl (ltn rfl) ?_
                refine VL.un rfl rfl (ltn rfl) ?_
                refine VL.va (op_pick rfl rfl (ltn rfl)) rfl ?_
                refine VL.va (op_move rfl (ltn rfl)) rfl ?_
                refine VL.un rfl rfl (ltn rfl) ?_
                refine VL.un rfl rfl (ltn rfl) ?_
                refine VL.un rfl rfl (ltn rfl) ?_
                refine VL.va (op_pick rfl rfl (ltn rfl)) rfl ?_
                refine VL.va (op_assign rfl (ltn rfl)) rfl ?_
                refine VL.done ?_
                refine VN.then ?_
                refine VC.ret ?_
                refine VR.then ?_
                cases h
            · rw [if_neg c6858] at h
              obtain rfl : b6857 = false := hb6857.symm.trans (beq_eq_false_iff_ne.2 c6858)
              refine VL.un rfl rfl (ltn rfl) ?_
              refine VL.un rfl rfl (ltn rfl) ?_
              refine VL.va (op_pick rfl rfl (ltn rfl)) rfl ?_
              refine VL.va (op_move rfl (ltn rfl)) rfl ?_
              refine VL.un rfl rfl (ltn rfl) ?_
              refine VL.un rfl rfl (ltn rfl) ?_
              refine VL.va (op_pick rfl rfl (ltn rfl)) rfl ?_
              refine VL.va (op_move rfl (ltn rfl)) rfl ?_
              refine VL.un rfl rfl (ltn rfl) ?_
              refine VL.un rfl rfl (ltn rfl) ?_
              refine VL.un rfl rfl (ltn rfl) ?_
              refine VL.un rfl rfl (ltn rfl) ?_
              refine VL.un rfl rfl (ltn rfl) ?_
              refine VL.un rfl rfl (ltn rfl) ?_
              refine VL.un rfl rfl (ltn rfl) ?_
              refine VL.un rfl rfl (ltn rfl) ?_
              refine VL.un rfl rfl (ltn rfl) ?_
              refine VL.va (op_pick rfl rfl (ltn rfl)) rfl ?_
              refine VL.va (op_move rfl (ltn rfl)) rfl ?_
              refine VL.un rfl rfl (ltn rfl) ?_
              refine VL.un rfl rfl (ltn rfl) ?_
              refine VL.un rfl rfl (ltn rfl) ?_
              refine VL.va (op_pick rfl rfl (ltn rfl)) rfl ?_
              refine VL.va (op_assign rfl (ltn rfl)) rfl ?_
              refine VL.done ?_
              refine VN.then ?_
              refine VC.ret ?_
              refine VR.then ?_
              cases h
          · rw [if_neg c6856] at h
            obtain rfl : b6855 = false := hb6855.symm.trans (beq_eq_false_iff_ne.2 c6856)
            refine VL.un rfl rfl (ltn rfl) ?_
            refine VL.un rfl rfl (ltn rfl) ?_
            refine VL.va (op_pick rfl rfl (ltn rfl)) rfl ?_
            refine VL.va (op_move rfl (ltn rfl)) rfl ?_
            refine VL.un rfl rfl (ltn rfl) ?_
            refine VL.un rfl rfl (ltn rfl) ?_
            refine VL.va (op_pick rfl rfl (ltn rfl)) rfl ?_
            refine VL.va (op_move rfl (ltn rfl)) rfl ?_
            refine VL.un rfl rfl (ltn rfl) ?_
            refine VL.un rfl rfl (ltn rfl) ?_
            refine VL.va (op_pick rfl rfl (ltn rfl)) rfl ?_
            refine VL.va (op_move rfl (ltn rfl)) rfl ?_
            refine VL.un rfl rfl (ltn rfl) ?_
            refine VL.un rfl rfl (ltn rfl) ?_
            refine VL.un rfl rfl (ltn rfl) ?_
            refine VL.un rfl rfl (ltn rfl) ?_
            refine VL.un rfl rfl (ltn rfl) ?_
            refine VL.un rfl rfl (ltn rfl) ?_
            refine VL.un rfl rfl (ltn rfl) ?_
            refine VL.un rfl rfl (ltn rfl) ?_
            refine VL.un rfl rfl (ltn rfl) ?_
            refine VL.va (op_pick rfl rfl (ltn rfl)) rfl ?_
            refine VL.va (op_move rfl (ltn rfl)) rfl ?_
            refine VL.un rfl rfl (ltn rfl) ?_
            refine VL.un rfl rfl (ltn rfl) ?_
            refine VL.un rfl rfl (ltn rfl) ?_
            refine VL.va (op_pick rfl rfl (ltn rfl)) rfl ?_
            refine VL.va (op_assign rfl (ltn rfl)) rfl ?_
            refine VL.done ?_
            refine VN.then ?_
            refine VC.ret ?_
            refine VR.then ?_
            cases h
        · rw [if_neg c6843] at h
          obtain rfl := Bool.eq_false_iff.2 c6843
          refine VC.cond_f rfl ?_
          refine VC.skip ?_
          refine VN.then ?_
          refine VC.seq ?_
          refine VC.seq ?_
          refine VC.region ?_
          refine VL.va (op_move rfl (ltn rfl)) rfl ?_
          refine VL.letter ((t2621 != 0)) fun b6893 hb6893 => ?_
          refine VL.va (op_cmp rfl rfl (congrArg some hb6893) (ltn rfl)) rfl ?_
          refine VL.va (op_move rfl (ltn rfl)) rfl ?_
          by_cases c6894 : t2621 = 0
          · rw [if_pos c6894] at h
            obtain rfl : b6893 = false := hb6893.symm.trans (bne_eq_false_iff_eq.2 c6894)
            refine VL.va (op_move rfl (ltn rfl)) rfl ?_
            refine VL.va (op_move rfl (ltn rfl)) rfl ?_
            refine VL.va (op_move rfl (ltn rfl)) rfl ?_
            replace h := Option.bind_eq_some_iff.1 h
            obtain ⟨r6895, hA6896, h⟩ := h
            refine VL.sC (o_call_b0 FO26 (tarryref09_Of.ok k r133 (a3.extract 0 ((mn (a3.size : Int) 18).toNat)) v136 r6895 hA6896) rfl rfl (ltn rfl) (All_of (.cons (.inr (.inl ⟨_, List.mem_of_getElem? (i := 0) rfl, rfl⟩)) .nil)) (by rintro _ _ _ ⟨v6898, rfl, rfl, rfl⟩; rfl)) rfl ?_
            rintro v6898 _ _ ⟨_, rfl, rfl, rfl⟩
            replace h := Option.bind_eq_some_iff.1 h
            obtain ⟨t6899, hA6900, h⟩ := h
            refine VL.sC (o_call_b0 FO25 (tarryref06_Same.ok k r2620 r6895 v2624 v6898 t6899 hA6900) rfl rfl (ltn rfl) (All_of (.cons (.inr (.inl ⟨_, List.mem_of_getElem? (i := 4) rfl, rfl⟩)) (.cons (.inr (.inl ⟨_, List.mem_of_getElem? (i := 0) rfl, rfl⟩)) .nil))) (by rintro _ _ _ ⟨rfl, rfl, rfl⟩; rfl)) rfl ?_
            rintro _ _ _ ⟨rfl, rfl, rfl⟩
            by_cases c6901 : t6899 = true
            · rw [if_pos c6901] at h
              obtain rfl := c6901
              refine VL.va (op_not rfl rfl (ltn rfl)) rfl ?_
              refine VL.va (op_pick rfl rfl (ltn rfl)) rfl ?_
              refine VL.done ?_
              refine VN.then ?_
              refine VC.cond_f rfl ?_
              refine VC.skip ?_
              refine VN.then ?_
              refine VC.seq ?_
              refine VC.region ?_
              refine VL.va (op_move rfl (ltn rfl)) rfl ?_
              refine VL.va (op_move rfl (ltn rfl)) rfl ?_
              replace h := Option.bind_eq_some_iff.1 h
              obtain ⟨t6902, hA6903, h⟩ := h
              refine VL.sC (o_call_b0 FO27 (tarryref09_At.ok k r133 a1 v136 t6902 hA6903) rfl rfl (ltn rfl) (All_of (.cons (.inr (.inl ⟨_, List.mem_of_getElem? (i := 1) rfl, rfl⟩)) .nil)) (by rintro _ _ _ ⟨rfl, rfl, rfl⟩; rfl)) rfl ?_
              rintro _ _ _ ⟨rfl, rfl, rfl⟩
              refine VL.va (op_assign rfl (ltn rfl)) rfl ?_
              refine VL.done ?_
              refine VN.then ?_
              refine VC.join0 (⟨179, [(0, v136), (1, .int .i64 a1), (8, .bool false), (9, v2342), (10, .int .i64 t2339), (13, .pointer (some ⟨g2432, 0, none⟩)), (14, .int .i64 t2430), (17, .int .i64 t6902)], [], [(g2432, 26, [.string t2426, .int .i64 t2427, .int .i64 t2428, .int .i64 t2429])], [(v136, 26, 4, r133.map enc25), (v2342, 26, 4, r2338.map enc25)]⟩) (tarrylaw09_WaitsGo.j4 k a1 r133 r2338 t2339 t2426 t2427 t2428 t2429 t2430 t6902 = some r1) ?_ ?_
              · refine VC.seq ?_
                refine VC.region ?_
                refine VL.va (op_move rfl (ltn rfl)) rfl ?_
                refine VL.letter (decide (a2 < 0)) fun b7363 hb7363 => ?_
                refine VL.va (op_cmp rfl rfl (congrArg some hb7363) (ltn rfl)) rfl ?_
                refine VL.va (op_move rfl (ltn rfl)) rfl ?_
                by_cases c7364 : a2 < 0
                · rw [if_pos c7364] at h
                  obtain rfl : b7363 = true := hb7363.symm.trans (decide_eq_true c7364)
                  refine VL.un rfl rfl (ltn rfl) ?_
                  refine VL.un rfl rfl (ltn rfl) ?_
                  refine VL.va (op_pick rfl rfl (ltn rfl)) rfl ?_
                  refine VL.done ?_
                  refine VN.then ?_
                  refine VC.cond_t rfl ?_
                  refine VC.seq ?_
                  refine VC.region ?_
                  refine VL.va (op_move rfl (ltn rfl)) rfl ?_
                  refine VL.letter ((t2409 != 1)) fun b7368 hb7368 => ?_
                  refine VL.va (op_cmp rfl rfl (congrArg some hb7368) (ltn rfl)) rfl ?_
                  refine VL.va (op_move rfl (ltn rfl)) rfl ?_
                  by_cases c7369 : t2409 = 1
                  · rw [if_pos c7369] at h
                    obtain rfl : b7368 = false := hb7368.symm.trans (bne_eq_false_iff_eq.2 c7369)
                    refine VL.va (op_move rfl (ltn rfl)) rfl ?_
                    refine VL.va (op_len_own (m := r2408.length) 3 lenm Try.underlying22 rfl rfl (ltn rfl)) rfl ?_
                    refine VL.letter (((r2408.length : Int) != 0)) fun b7370 hb7370 => ?_
                    refine VL.va (op_cmp rfl rfl (congrArg some hb7370) (ltn rfl)) rfl ?_
                    refine VL.va (op_pick rfl rfl (ltn rfl)) rfl ?_
                    refine VL.done ?_
                    refine VN.then ?_
                    by_cases c7371 : (r2408.length : Int) = 0
                    · rw [if_pos c7371] at h
                      obtain rfl : b7370 = false := hb7370.symm.trans (bne_eq_false_iff_eq.2 c7371)
                      refine VC.cond_f rfl ?_
                      refine VC.skip ?_
                      refine VN.meet0  [0] [1, 2] h ⟨rfl, ⟨rfl, rfl, rfl, rfl, rfl, rfl, rfl, rfl, trivial⟩, trivial, rfl, by decide, rfl, by decide⟩
                    · rw [if_neg c7371] at h
                      obtain rfl : b7370 = true := hb7370.symm.trans (bne_iff_ne.2 c7371)
                      refine VC.cond_t rfl ?_
                      refine VC.seq ?_
                      refine VC.region ?_
                      refine VL.va (op_assign rfl (ltn rfl)) rfl ?_
                      refine VL.done ?_
                      refine VN.then ?_
                      refine VC.ret ?_
                      refine VR.then ?_
                      cases h
                  · rw [if_neg c7369] at h
                    obtain rfl : b7368 = true := hb7368.symm.trans (bne_iff_ne.2 c7369)
                    refine VL.un rfl rfl (ltn rfl) ?_
                    refine VL.un rfl rfl (ltn rfl) ?_
                    refine VL.un rfl rfl (ltn rfl) ?_
                    refine VL.va (op_pick rfl rfl (ltn rfl)) rfl ?_
                    refine VL.done ?_
                    refine VN.then ?_
                    refine VC.cond_t rfl ?_
                    refine VC.seq ?_
                    refine VC.region ?_
                    refine VL.va (op_assign rfl (ltn rfl)) rfl ?_
                    refine VL.done ?_
                    refine VN.then ?_
                    refine VC.ret ?_
                    refine VR.then ?_
                    cases h
                · rw [if_neg c7364] at h
                  obtain rfl : b7363 = false := hb7363.symm.trans (decide_eq_false c7364)
                  refine VL.va (op_move rfl (ltn rfl)) rfl ?_
                  refine VL.letter (decide (a2 > 3)) fun b7372 hb7372 => ?_
                  refine VL.va (op_cmp rfl rfl (congrArg some hb7372) (ltn rfl)) rfl ?_
                  refine VL.va (op_pick rfl rfl (ltn rfl)) rfl ?_
                  refine VL.done ?_
                  refine VN.then ?_
                  by_cases c7373 : a2 > 3
                  · rw [if_pos c7373] at h
                    obtain rfl : b7372 = true := hb7372.symm.trans (decide_eq_true c7373)
                    refine VC.cond_t rfl ?_
                    refine VC.seq ?_
                    refine VC.region ?_
                    refine VL.va (op_move rfl (ltn rfl)) rfl ?_
                    refine VL.letter ((t2409 != 1)) fun b7377 hb7377 => ?_
                    refine VL.va (op_cmp rfl rfl (congrArg some hb7377) (ltn rfl)) rfl ?_
                    refine VL.va (op_move rfl (ltn rfl)) rfl ?_
                    by_cases c7378 : t2409 = 1
                    · rw [if_pos c7378] at h
                      obtain rfl : b7377 = false := hb7377.symm.trans (bne_eq_false_iff_eq.2 c7378)
                      refine VL.va (op_move rfl (ltn rfl)) rfl ?_
                      refine VL.va (op_len_own (m := r2408.length) 3 lenm Try.underlying22 rfl rfl (ltn rfl)) rfl ?_
                      refine VL.letter (((r2408.length : Int) != 0)) fun b7379 hb7379 => ?_
                      refine VL.va (op_cmp rfl rfl (congrArg some hb7379) (ltn rfl)) rfl ?_
                      refine VL.va (op_pick rfl rfl (ltn rfl)) rfl ?_
                      refine VL.done ?_
                      refine VN.then ?_
                      by_cases c7380 : (r2408.length : Int) = 0
                      · rw [if_pos c7380] at h
                        obtain rfl : b7379 = false := hb7379.symm.trans (bne_eq_false_iff_eq.2 c7380)
                        refine VC.cond_f rfl ?_
                        refine VC.skip ?_
                        refine VN.meet0  [0] [1, 2] h ⟨rfl, ⟨rfl, rfl, rfl, rfl, rfl, rfl, rfl, rfl, trivial⟩, trivial, rfl, by decide, rfl, by decide⟩
                      · rw [if_neg c7380] at h
                        obtain rfl : b7379 = true := hb7379.symm.trans (bne_iff_ne.2 c7380)
                        refine VC.cond_t rfl ?_
                        refine VC.seq ?_
                        refine VC.region ?_
                        refine VL.va (op_assign rfl (ltn rfl)) rfl ?_
                        refine VL.done ?_
                        refine VN.then ?_
                        refine VC.ret ?_
                        refine VR.then ?_
                        cases h
                    · rw [if_neg c7378] at h
                      obtain rfl : b7377 = true := hb7377.symm.trans (bne_iff_ne.2 c7378)
                      refine VL.un rfl rfl (ltn rfl) ?_
                      refine VL.un rfl rfl (ltn rfl) ?_
                      refine VL.un rfl rfl (ltn rfl) ?_
                      refine VL.va (op_pick rfl rfl (ltn rfl)) rfl ?_
                      refine VL.done ?_
                      refine VN.then ?_
                      refine VC.cond_t rfl ?_
                      refine VC.seq ?_
                      refine VC.region ?_
                      refine VL.va (op_assign rfl (ltn rfl)) rfl ?_
                      refine VL.done ?_
                      refine VN.then ?_
                      refine VC.ret ?_
                      refine VR.then ?_
                      cases h
                  · rw [if_neg c7373] at h
                    obtain rfl : b7372 = false := hb7372.symm.trans (decide_eq_false c7373)
                    refine VC.cond_f rfl ?_
                    refine VC.seq ?_
                    refine VC.region ?_
                    refine VL.va (op_move rfl (ltn rfl)) rfl ?_
                    refine VL.letter (decide (t6902 < 0)) fun b7381 hb7381 => ?_
                    refine VL.va (op_cmp rfl rfl (congrArg some hb7381) (ltn rfl)) rfl ?_
                    refine VL.done ?_
                    refine VN.then ?_
                    by_cases c7382 : t6902 < 0
                    · rw [if_pos c7382] at h
                      obtain rfl : b7381 = true := hb7381.symm.trans (decide_eq_true c7382)
                      refine VC.cond_t rfl ?_
                      refine VC.seq ?_
                      refine VC.region ?_
                      refine VL.va (op_move rfl (ltn rfl)) rfl ?_
                      refine VL.letter ((t2409 != 8)) fun b7386 hb7386 => ?_
                      refine VL.va (op_cmp rfl rfl (congrArg some hb7386) (ltn rfl)) rfl ?_
                      refine VL.va (op_move rfl (ltn rfl)) rfl ?_
                      by_cases c7387 : t2409 = 8
                      · rw [if_pos c7387] at h
                        obtain rfl : b7386 = false := hb7386.symm.trans (bne_eq_false_iff_eq.2 c7387)
                        refine VL.va (op_move rfl (ltn rfl)) rfl ?_
                        refine VL.va (op_len_own (m := r2408.length) 3 lenm Try.underlying22 rfl rfl (ltn rfl)) rfl ?_
                        refine VL.letter (((r2408.length : Int) != 0)) fun b7388 hb7388 => ?_
                        refine VL.va (op_cmp rfl rfl (congrArg some hb7388) (ltn rfl)) rfl ?_
                        refine VL.va (op_pick rfl rfl (ltn rfl)) rfl ?_
                        refine VL.done ?_
                        refine VN.then ?_
                        by_cases c7389 : (r2408.length : Int) = 0
                        · rw [if_pos c7389] at h
                          obtain rfl : b7388 = false := hb7388.symm.trans (bne_eq_false_iff_eq.2 c7389)
                          refine VC.cond_f rfl ?_
                          refine VC.skip ?_
                          refine VN.meet0  [0] [1, 2] h ⟨rfl, ⟨rfl, rfl, rfl, rfl, rfl, rfl, rfl, rfl, trivial⟩, trivial, rfl, by decide, rfl, by decide⟩
                        · rw [if_neg c7389] at h
                          obtain rfl : b7388 = true := hb7388.symm.trans (bne_iff_ne.2 c7389)
                          refine VC.cond_t rfl ?_
                          refine VC.seq ?_
                          refine VC.region ?_
                          refine VL.va (op_assign rfl (ltn rfl)) rfl ?_
                          refine VL.done ?_
                          refine VN.then ?_
                          refine VC.ret ?_
                          refine VR.then ?_
                          cases h
                      · rw [if_neg c7387] at h
                        obtain rfl : b7386 = true := hb7386.symm.trans (bne_iff_ne.2 c7387)
                        refine VL.un rfl rfl (ltn rfl) ?_
                        refine VL.un rfl rfl (ltn rfl) ?_
                        refine VL.un rfl rfl (ltn rfl) ?_
                        refine VL.va (op_pick rfl rfl (ltn rfl)) rfl ?_
                        refine VL.done ?_
                        refine VN.then ?_
                        refine VC.cond_t rfl ?_
                        refine VC.seq ?_
                        refine VC.region ?_
                        refine VL.va (op_assign rfl (ltn rfl)) rfl ?_
                        refine VL.done ?_
                        refine VN.then ?_
                        refine VC.ret ?_
                        refine VR.then ?_
                        cases h
                    · rw [if_neg c7382] at h
                      obtain rfl : b7381 = false := hb7381.symm.trans (decide_eq_false c7382)
                      refine VC.cond_f rfl ?_
                      refine VC.seq ?_
                      refine VC.region ?_
                      refine VL.va (op_move rfl (ltn rfl)) rfl ?_
                      refine VL.va (op_move rfl (ltn rfl)) rfl ?_
                      by_cases c7390 : 0 ≤ t6902
                      · rw [if_pos c7390] at h
                        replace h := Option.bind_eq_some_iff.1 h
                        obtain ⟨x7391, hx7391, h⟩ := h
                        refine VL.openR (m := r133.length) 1 lenm rfl (pos_get hx7391) ?_
                        rintro g7392 n7393 rfl
                        refine VL.va (op_indexAddr Try.underlying22 TI26 rfl rfl c7390 (lt_get c7390 hx7391) (add_zero_at _ _) (ltn rfl)) rfl ?_
                        refine VL.va (op_load_own (sz := 4) (o := 0) 1 t6902.toNat 4 rfl rfl (get_map hx7391) TI26 rfl (fun h => absurd h (by decide)) (ltn rfl)) rfl ?_
                        refine VL.sG (o_alloc Z26 ZL26 (ltn rfl)) rfl ?_
                        intro g7394
                        refine VL.step1 (o_store 0 4 rfl rfl rfl TI26 (.agg (.of rfl)) rfl (len rfl)) rfl ?_
                        refine VL.done ?_
                        refine VN.then ?_
                        refine VC.seq ?_
                        refine VC.region ?_
                        refine VL.va (op_move rfl (ltn rfl)) rfl ?_
                        refine VL.va (op_fieldAddr FI26_1 rfl (add_at _ _ _) (ltn rfl)) rfl ?_
                        refine VL.va (op_fieldAddr FI24_0 rfl (add_at _ _ _) (ltn rfl)) rfl ?_
                        refine VL.step1 (o_store 0 1 rfl rfl rfl TI3 (.c rfl) rfl (len rfl)) rfl ?_
                        refine VL.done ?_
                        refine VN.then ?_
                        refine VC.letter ((t2409 != 0)) fun b7395 hb7395 => ?_
                        by_cases c7396 : t2409 = 0
                        · rw [if_pos c7396] at h
                          obtain rfl : b7395 = false := hb7395.symm.trans (bne_eq_false_iff_eq.2 c7396)
                          replace h := Option.bind_eq_some_iff.1 h
                          obtain ⟨r7397, hA7398, h⟩ := h
                          replace h := Option.bind_eq_some_iff.1 h
                          obtain ⟨r7401, hA7402, h⟩ := h
                          replace h := Option.bind_eq_some_iff.1 h
                          obtain ⟨t7405, hA7406, h⟩ := h
                          by_cases c7407 : t7405 = true
                          · rw [if_pos c7407] at h
                            obtain rfl := c7407
                            refine VC.join0 (⟨179, [(0, (.slice (some ⟨g7392, 0, none⟩) r133.length n7393)), (1, .int .i64 a1), (8, .bool false), (9, v2342), (10, .int .i64 t2339), (13, .pointer (some ⟨g2432, 0, none⟩)), (14, .int .i64 t2430), (17, .int .i64 t6902), (139, .bool false)], [], [(g2432, 26, [.string t2426, .int .i64 t2427, .int .i64 t2428, .int .i64 t2429])], [((.slice (some ⟨g7392, 0, none⟩) r133.length n7393), 26, 4, r133.map enc25), (v2342, 26, 4, r2338.map enc25)]⟩) (True) ?_ ?_
                            · refine VC.draw ⟨0, [], [], [(g7394, 26, [.string x7391.f0, .int .i64 a2, .int .i64 x7391.f2, .int .i64 x7391.f3])], [((.slice (some ⟨g7392, 0, none⟩) r133.length n7393), 26, 4, r133.map enc25), (v2412, 26, 4, r2408.map enc25)]⟩ (by kernel_rfl) rfl (by kernel_rfl) (n := 12) (listed := LB 12 0) ?_
                              refine VA.va (i := 0) (listed' := LB 12 1) rfl (op_move rfl (ltn rfl)) rfl (by kernel_rfl) (by kernel_rfl) (by kernel_rfl) (by kernel_rfl) ⟨trivial, ⟨⟨0, rfl⟩, trivial⟩, ⟨⟨1, rfl⟩, ⟨3, rfl⟩, trivial⟩⟩ (fun _ _ _ h => h) ?_
                              refine VA.va (i := 1) (listed' := LB 12 3) rfl (op_cmp rfl rfl (congrArg some hb7395) (ltn rfl)) rfl (by kernel_rfl) (by kernel_rfl) (by kernel_rfl) (by kernel_rfl) ⟨trivial, ⟨⟨0, rfl⟩, trivial⟩, ⟨⟨1, rfl⟩, ⟨3, rfl⟩, trivial⟩⟩ (fun _ _ _ h => h) ?_
                              refine VA.va (i := 2) (listed' := LB 12 7) rfl (op_move rfl (ltn rfl)) rfl (by kernel_rfl) (by kernel_rfl) (by kernel_rfl) (by kernel_rfl) ⟨trivial, ⟨⟨0, rfl⟩, trivial⟩, ⟨⟨1, rfl⟩, ⟨3, rfl⟩, trivial⟩⟩ (fun _ _ _ h => h) ?_
                              refine VA.va (i := 3) (listed' := LB 12 15) rfl (op_move rfl (ltn rfl)) rfl (by kernel_rfl) (by kernel_rfl) (by kernel_rfl) (by kernel_rfl) ⟨trivial, ⟨⟨0, rfl⟩, trivial⟩, ⟨⟨1, rfl⟩, ⟨3, rfl⟩, trivial⟩⟩ (fun _ _ _ h => h) ?_
                              refine VA.va (i := 4) (listed' := LB 12 31) rfl (op_move rfl (ltn rfl)) rfl (by kernel_rfl) (by kernel_rfl) (by kernel_rfl) (by kernel_rfl) ⟨trivial, ⟨⟨0, rfl⟩, trivial⟩, ⟨⟨1, rfl⟩, ⟨3, rfl⟩, trivial⟩⟩ (fun _ _ _ h => h) ?_
                              refine VA.va (i := 5) (listed' := LB 12 63) rfl (op_move rfl (ltn rfl)) rfl (by kernel_rfl) (by kernel_rfl) (by kernel_rfl) (by kernel_rfl) ⟨trivial, ⟨⟨0, rfl⟩, trivial⟩, ⟨⟨1, rfl⟩, ⟨3, rfl⟩, trivial⟩⟩ (fun _ _ _ h => h) ?_
                              refine VA.va (i := 7) (listed' := LB 12 191) rfl (op_load 0 4 rfl rfl TI26 rfl (fun h => absurd h (by decide)) (ltn rfl)) rfl (by kernel_rfl) (by kernel_rfl) (by kernel_rfl) (by kernel_rfl) ⟨trivial, ⟨⟨0, rfl⟩, trivial⟩, ⟨⟨1, rfl⟩, ⟨3, rfl⟩, trivial⟩⟩ (fun _ _ _ h => h) ?_
                              refine VA.oneC (i := 6) (listed' := LB 12 255) (by kernel_rfl) rfl (o_call_b0 FO28 (tarryref09_Without.ok k r133 a1 (.slice (some ⟨g7392, 0, none⟩) r133.length n7393) r7397 hA7398) rfl rfl (ltn rfl) (All_of (.cons (.inr (.inl ⟨_, List.mem_of_getElem? (i := 1) rfl, rfl⟩)) .nil)) (by rintro _ _ _ ⟨v7400, rfl, rfl, rfl⟩; rfl)) rfl (by kernel_rfl) ?_
                              rintro v7400 _ _ ⟨_, rfl, rfl, rfl⟩
                              refine ⟨⟨trivial, ⟨⟨0, rfl⟩, trivial⟩, ⟨⟨2, rfl⟩, ⟨4, rfl⟩, trivial⟩⟩, ?_⟩
                              refine VA.oneC (i := 8) (listed' := LB 12 511) (by kernel_rfl) rfl (o_call_b0 FO19 (tarryref09_With.ok k r7397 x7391.f0 a2 x7391.f2 x7391.f3 v7400 r7401 hA7402) rfl rfl (ltn rfl) (All_of (.cons (.inr (.inl ⟨_, List.mem_of_getElem? (i := 0) rfl, rfl⟩)) .nil)) (by rintro _ _ _ ⟨v7404, rfl, rfl, rfl⟩; rfl)) rfl (by kernel_rfl) ?_
                              rintro v7404 _ _ ⟨_, rfl, rfl, rfl⟩
                              refine ⟨⟨trivial, ⟨⟨0, rfl⟩, trivial⟩, ⟨⟨3, rfl⟩, ⟨5, rfl⟩, trivial⟩⟩, ?_⟩
                              refine VA.oneC (i := 9) (listed' := LB 12 1023) (by kernel_rfl) rfl (o_call_b0 FO15 (tarryref09_Same.ok k r2408 r7401 v2412 v7404 true hA7406) rfl rfl (ltn rfl) (All_of (.cons (.inr (.inl ⟨_, List.mem_of_getElem? (i := 5) rfl, rfl⟩)) (.cons (.inr (.inl ⟨_, List.mem_of_getElem? (i := 0) rfl, rfl⟩)) .nil))) (by rintro _ _ _ ⟨rfl, rfl, rfl⟩; rfl)) rfl (by kernel_rfl) ?_
                              rintro _ _ _ ⟨rfl, rfl, rfl⟩
                              refine ⟨⟨trivial, ⟨⟨0, rfl⟩, trivial⟩, ⟨⟨3, rfl⟩, ⟨5, rfl⟩, trivial⟩⟩, ?_⟩
                              refine VA.va (i := 10) (listed' := LB 12 2047) rfl (op_not rfl rfl (ltn rfl)) rfl (by kernel_rfl) (by kernel_rfl) (by kernel_rfl) (by kernel_rfl) ⟨trivial, ⟨⟨0, rfl⟩, trivial⟩, ⟨⟨3, rfl⟩, ⟨5, rfl⟩, trivial⟩⟩ (fun _ _ _ h => h) ?_
                              refine VA.va (i := 11) (listed' := LB 12 4095) rfl (op_pick rfl rfl (ltn rfl)) rfl (by kernel_rfl) (by kernel_rfl) (by kernel_rfl) (by kernel_rfl) ⟨trivial, ⟨⟨0, rfl⟩, trivial⟩, ⟨⟨3, rfl⟩, ⟨5, rfl⟩, trivial⟩⟩ (fun _ _ _ h => h) ?_
                              refine VA.done (by kernel_rfl) ?_
                              exact VN.meet0  [1] [3, 4] trivial ⟨rfl, ⟨rfl, rfl, rfl, rfl, rfl, rfl, rfl, rfl, rfl, trivial⟩, trivial, rfl, by decide, rfl, by decide⟩
                            intro _
                            refine VC.cond_f rfl ?_
                            refine VC.skip ?_
                            refine VN.meet0  [0] [0, 1] h ⟨rfl, ⟨rfl, rfl, rfl, rfl, rfl, rfl, rfl, rfl, trivial⟩, trivial, rfl, by decide, rfl, by decide⟩
                          · rw [if_neg c7407] at h
                            obtain rfl := Bool.eq_false_iff.2 c7407
                            refine VC.join0 (⟨179, [(0, (.slice (some ⟨g7392, 0, none⟩) r133.length n7393)), (1, .int .i64 a1), (8, .bool false), (9, v2342), (10, .int .i64 t2339), (13, .pointer (some ⟨g2432, 0, none⟩)), (14, .int .i64 t2430), (17, .int .i64 t6902), (139, .bool true)], [], [(g2432, 26, [.string t2426, .int .i64 t2427, .int .i64 t2428, .int .i64 t2429])], [((.slice (some ⟨g7392, 0, none⟩) r133.length n7393), 26, 4, r133.map enc25), (v2342, 26, 4, r2338.map enc25)]⟩) (True) ?_ ?_
                            · refine VC.draw ⟨0, [], [], [(g7394, 26, [.string x7391.f0, .int .i64 a2, .int .i64 x7391.f2, .int .i64 x7391.f3])], [((.slice (some ⟨g7392, 0, none⟩) r133.length n7393), 26, 4, r133.map enc25), (v2412, 26, 4, r2408.map enc25)]⟩ (by kernel_rfl) rfl (by kernel_rfl) (n := 12) (listed := LB 12 0) ?_
                              refine VA.va (i := 0) (listed' := LB 12 1) rfl (op_move rfl (ltn rfl)) rfl (by kernel_rfl) (by kernel_rfl) (by kernel_rfl) (by kernel_rfl) ⟨trivial, ⟨⟨0, rfl⟩, trivial⟩, ⟨⟨1, rfl⟩, ⟨3, rfl⟩, trivial⟩⟩ (fun _ _ _ h => h) ?_
                              refine VA.va (i := 1) (listed' := LB 12 3) rfl (op_cmp rfl rfl (congrArg some hb7395) (ltn rfl)) rfl (by kernel_rfl) (by kernel_rfl) (by kernel_rfl) (by kernel_rfl) ⟨trivial, ⟨⟨0, rfl⟩, trivial⟩, ⟨⟨1, rfl⟩, ⟨3, rfl⟩, trivial⟩⟩ (fun _ _ _ h => h) ?_
                              refine VA.va (i := 2) (listed' := LB 12 7) rfl (op_move rfl (ltn rfl)) rfl (by kernel_rfl) (by kernel_rfl) (by kernel_rfl) (by kernel_rfl) ⟨trivial, ⟨⟨0, rfl⟩, trivial⟩, ⟨⟨1, rfl⟩, ⟨3, rfl⟩, trivial⟩⟩ (fun _ _ _ h => h) ?_
                              refine VA.va (i := 3) (listed' := LB 12 15) rfl (op_move rfl (ltn rfl)) rfl (by kernel_rfl) (by kernel_rfl) (by kernel_rfl) (by kernel_rfl) ⟨trivial, ⟨⟨0, rfl⟩, trivial⟩, ⟨⟨1, rfl⟩, ⟨3, rfl⟩, trivial⟩⟩ (fun _ _ _ h => h) ?_
                              refine VA.va (i := 4) (listed' := LB 12 31) rfl (op_move rfl (ltn rfl)) rfl (by kernel_rfl) (by kernel_rfl) (by kernel_rfl) (by kernel_rfl) ⟨trivial, ⟨⟨0, rfl⟩, trivial⟩, ⟨⟨1, rfl⟩, ⟨3, rfl⟩, trivial⟩⟩ (fun _ _ _ h => h) ?_
                              refine VA.va (i := 5) (listed' := LB 12 63) rfl (op_move rfl (ltn rfl)) rfl (by kernel_rfl) (by kernel_rfl) (by kernel_rfl) (by kernel_rfl) ⟨trivial, ⟨⟨0, rfl⟩, trivial⟩, ⟨⟨1, rfl⟩, ⟨3, rfl⟩, trivial⟩⟩ (fun _ _ _ h => h) ?_
                              refine VA.va (i := 7) (listed' := LB 12 191) rfl (op_load 0 4 rfl rfl TI26 rfl (fun h => absurd h (by decide)) (ltn rfl)) rfl (by kernel_rfl) (by kernel_rfl) (by kernel_rfl) (by kernel_rfl) ⟨trivial, ⟨⟨0, rfl⟩, trivial⟩, ⟨⟨1, rfl⟩, ⟨3, rfl⟩, trivial⟩⟩ (fun _ _ _ h => h) ?_
                              refine VA.oneC (i := 6) (listed' := LB 12 255) (by kernel_rfl) rfl (o_call_b0 FO28 (tarryref09_Without.ok k r133 a1 (.slice (some ⟨g7392, 0, none⟩) r133.length n7393) r7397 hA7398) rfl rfl (ltn rfl) (All_of (.cons (.inr (.inl ⟨_, List.mem_of_getElem? (i := 1) rfl, rfl⟩)) .nil)) (by rintro _ _ _ ⟨v7400, rfl, rfl, rfl⟩; rfl)) rfl (by kernel_rfl) ?_
                              rintro v7400 _ _ ⟨_, rfl, rfl, rfl⟩
                              refine ⟨⟨trivial, ⟨⟨0, rfl⟩, trivial⟩, ⟨⟨2, rfl⟩, ⟨4, rfl⟩, trivial⟩⟩, ?_⟩
                              refine VA.oneC (i := 8) (listed' := LB 12 511) (by kernel_rfl) rfl (o_call_b0 FO19 (tarryref09_With.ok k r7397 x7391.f0 a2 x7391.f2 x7391.f3 v7400 r7401 hA7402) rfl rfl (ltn rfl) (All_of (.cons (.inr (.inl ⟨_, List.mem_of_getElem? (i := 0) rfl, rfl⟩)) .nil)) (by rintro _ _ _ ⟨v7404, rfl, rfl, rfl⟩; rfl)) rfl (by kernel_rfl) ?_
                              rintro v7404 _ _ ⟨_, rfl, rfl, rfl⟩
                              refine ⟨⟨trivial, ⟨⟨0, rfl⟩, trivial⟩, ⟨⟨3, rfl⟩, ⟨5, rfl⟩, trivial⟩⟩, ?_⟩
                              refine VA.oneC (i := 9) (listed' := LB 12 1023) (by kernel_rfl) rfl (o_call_b0 FO15 (tarryref09_Same.ok k r2408 r7401 v2412 v7404 false hA7406) rfl rfl (ltn rfl) (All_of (.cons (.inr (.inl ⟨_, List.mem_of_getElem? (i := 5) rfl, rfl⟩)) (.cons (.inr (.inl ⟨_, List.mem_of_getElem? (i := 0) rfl, rfl⟩)) .nil))) (by rintro _ _ _ ⟨rfl, rfl, rfl⟩; rfl)) rfl (by kernel_rfl) ?_
                              rintro _ _ _ ⟨rfl, rfl, rfl⟩
                              refine ⟨⟨trivial, ⟨⟨0, rfl⟩, trivial⟩, ⟨⟨3, rfl⟩, ⟨5, rfl⟩, trivial⟩⟩, ?_⟩
                              refine VA.va (i := 10) (listed' := LB 12 2047) rfl (op_not rfl rfl (ltn rfl)) rfl (by kernel_rfl) (by kernel_rfl) (by kernel_rfl) (by kernel_rfl) ⟨trivial, ⟨⟨0, rfl⟩, trivial⟩, ⟨⟨3, rfl⟩, ⟨5, rfl⟩, trivial⟩⟩ (fun _ _ _ h => h) ?_
                              refine VA.va (i := 11) (listed' := LB 12 4095) rfl (op_pick rfl rfl (ltn rfl)) rfl (by kernel_rfl) (by kernel_rfl) (by kernel_rfl) (by kernel_rfl) ⟨trivial, ⟨⟨0, rfl⟩, trivial⟩, ⟨⟨3, rfl⟩, ⟨5, rfl⟩, trivial⟩⟩ (fun _ _ _ h => h) ?_
                              refine VA.done (by kernel_rfl) ?_
                              exact VN.meet0  [1] [3, 4] trivial ⟨rfl, ⟨rfl, rfl, rfl, rfl, rfl, rfl, rfl, rfl, rfl, trivial⟩, trivial, rfl, by decide, rfl, by decide⟩
                            intro _
                            refine VC.cond_t rfl ?_
                            refine VC.seq ?_
                            refine VC.region ?_
                            refine VL.va (op_assign rfl (ltn rfl)) rfl ?_
                            refine VL.done ?_
                            refine VN.then ?_
                            refine VC.ret ?_
                            refine VR.then ?_
                            cases h
                        · rw [if_neg c7396] at h
                          obtain rfl : b7395 = true := hb7395.symm.trans (bne_iff_ne.2 c7396)
                          refine VC.join0 (⟨179, [(0, (.slice (some ⟨g7392, 0, none⟩) r133.length n7393)), (1, .int .i64 a1), (8, .bool false), (9, v2342), (10, .int .i64 t2339), (13, .pointer (some ⟨g2432, 0, none⟩)), (14, .int .i64 t2430), (17, .int .i64 t6902), (139, .bool true)], [], [(g2432, 26, [.string t2426, .int .i64 t2427, .int .i64 t2428, .int .i64 t2429])], [((.slice (some ⟨g7392, 0, none⟩) r133.length n7393), 26, 4, r133.map enc25), (v2342, 26, 4, r2338.map enc25)]⟩) (True) ?_ ?_
                          · refine VC.draw ⟨0, [], [], [], []⟩ (by kernel_rfl) rfl (by kernel_rfl) (n := 12) (listed := LB 12 0) ?_
                            refine VA.va (i := 0) (listed' := LB 12 1) rfl (op_move rfl (ltn rfl)) rfl (by kernel_rfl) (by kernel_rfl) (by kernel_rfl) (by kernel_rfl) ⟨trivial, trivial, trivial⟩ (fun _ _ _ h => h) ?_
                            refine VA.va (i := 1) (listed' := LB 12 3) rfl (op_cmp rfl rfl (congrArg some hb7395) (ltn rfl)) rfl (by kernel_rfl) (by kernel_rfl) (by kernel_rfl) (by kernel_rfl) ⟨trivial, trivial, trivial⟩ (fun _ _ _ h => h) ?_
                            refine VA.va (i := 2) (listed' := LB 12 7) rfl (op_move rfl (ltn rfl)) rfl (by kernel_rfl) (by kernel_rfl) (by kernel_rfl) (by kernel_rfl) ⟨trivial, trivial, trivial⟩ (fun _ _ _ h => h) ?_
                            refine VA.un (i := 3) (listed' := LB 12 15) rfl rfl rfl (ltn rfl) (by kernel_rfl) (by kernel_rfl) (by kernel_rfl) (by kernel_rfl) ⟨trivial, trivial, trivial⟩ (fun _ _ _ h => h) ?_
                            refine VA.un (i := 4) (listed' := LB 12 31) rfl rfl rfl (ltn rfl) (by kernel_rfl) (by kernel_rfl) (by kernel_rfl) (by kernel_rfl) ⟨trivial, trivial, trivial⟩ (fun _ _ _ h => h) ?_
                            refine VA.un (i := 5) (listed' := LB 12 63) rfl rfl rfl (ltn rfl) (by kernel_rfl) (by kernel_rfl) (by kernel_rfl) (by kernel_rfl) ⟨trivial, trivial, trivial⟩ (fun _ _ _ h => h) ?_
                            refine VA.un (i := 6) (listed' := LB 12 127) rfl rfl rfl (ltn rfl) (by kernel_rfl) (by kernel_rfl) (by kernel_rfl) (by kernel_rfl) ⟨trivial, trivial, trivial⟩ (fun _ _ _ h => h) ?_
                            refine VA.un (i := 7) (listed' := LB 12 255) rfl rfl rfl (ltn rfl) (by kernel_rfl) (by kernel_rfl) (by kernel_rfl) (by kernel_rfl) ⟨trivial, trivial, trivial⟩ (fun _ _ _ h => h) ?_
                            refine VA.un (i := 8) (listed' := LB 12 511) rfl rfl rfl (ltn rfl) (by kernel_rfl) (by kernel_rfl) (by kernel_rfl) (by kernel_rfl) ⟨trivial, trivial, trivial⟩ (fun _ _ _ h => h) ?_
                            refine VA.un (i := 9) (listed' := LB 12 1023) rfl rfl rfl (ltn rfl) (by kernel_rfl) (by kernel_rfl) (by kernel_rfl) (by kernel_rfl) ⟨trivial, trivial, trivial⟩ (fun _ _ _ h => h) ?_
                            refine VA.un (i := 10) (listed' := LB 12 2047) rfl rfl rfl (ltn rfl) (by kernel_rfl) (by kernel_rfl) (by kernel_rfl) (by kernel_rfl) ⟨trivial, trivial, trivial⟩ (fun _ _ _ h => h) ?_
                            refine VA.va (i := 11) (listed' := LB 12 4095) rfl (op_pick rfl rfl (ltn rfl)) rfl (by kernel_rfl) (by kernel_rfl) (by kernel_rfl) (by kernel_rfl) ⟨trivial, trivial, trivial⟩ (fun _ _ _ h => h) ?_
                            refine VA.done (by kernel_rfl) ?_
                            exact VN.meet0  [1] [1, 2] trivial ⟨rfl, ⟨rfl, rfl, rfl, rfl, rfl, rfl, rfl, rfl, rfl, trivial⟩, trivial, rfl, by decide, rfl, by decide⟩
                          intro _
                          refine VC.cond_t rfl ?_
                          refine VC.seq ?_
                          refine VC.region ?_
                          refine VL.va (op_assign rfl (ltn rfl)) rfl ?_
                          refine VL.done ?_
                          refine VN.then ?_
                          refine VC.ret ?_
                          refine VR.then ?_
                          cases h
                      · rw [if_neg c7390] at h; cases h
              clear h
              intro  h
              unfold tarrylaw09_WaitsGo.j4 at h
              refine VC.seq ?_
              refine VC.seq ?_
              refine VC.region ?_
              refine VL.va (op_move rfl (ltn rfl)) rfl ?_
              refine VL.letter (decide (t6902 < 0)) fun b7424 hb7424 => ?_
              refine VL.va (op_cmp rfl rfl (congrArg some hb7424) (ltn rfl)) rfl ?_
              refine VL.done ?_
              refine VN.then ?_
              by_cases c7425 : t6902 < 0
              · rw [if_pos c7425] at h
                obtain rfl : b7424 = true := hb7424.symm.trans (decide_eq_true c7425)
                refine VC.cond_t rfl ?_
                refine VC.seq ?_
                refine VC.region ?_
                refine VL.va (op_move rfl (ltn rfl)) rfl ?_
                refine VL.letter ((t2339 == 8)) fun b7433 hb7433 => ?_
                refine VL.va (op_cmp rfl rfl (congrArg some hb7433) (ltn rfl)) rfl ?_
                refine VL.va (op_move rfl (ltn rfl)) rfl ?_
                by_cases c7434 : t2339 = 8
                · rw [if_pos c7434] at h
                  obtain rfl : b7433 = true := hb7433.symm.trans (beq_iff_eq.2 c7434)
                  refine VL.va (op_move rfl (ltn rfl)) rfl ?_
                  refine VL.letter ((t2430 == 8)) fun b7435 hb7435 => ?_
                  refine VL.va (op_cmp rfl rfl (congrArg some hb7435) (ltn rfl)) rfl ?_
                  refine VL.va (op_pick rfl rfl (ltn rfl)) rfl ?_
                  refine VL.va (op_move rfl (ltn rfl)) rfl ?_
                  by_cases c7436 : t2430 = 8
                  · rw [if_pos c7436] at h
                    obtain rfl : b7435 = true := hb7435.symm.trans (beq_iff_eq.2 c7436)
                    refine VL.va (op_move rfl (ltn rfl)) rfl ?_
                    refine VL.va (op_len_own (m := r2338.length) 1 lenm Try.underlying22 rfl rfl (ltn rfl)) rfl ?_
                    refine VL.letter (((r2338.length : Int) == 0)) fun b7437 hb7437 => ?_
                    refine VL.va (op_cmp rfl rfl (congrArg some hb7437) (ltn rfl)) rfl ?_
                    refine VL.va (op_pick rfl rfl (ltn rfl)) rfl ?_
                    refine VL.va (op_move rfl (ltn rfl)) rfl ?_
                    by_cases c7438 : (r2338.length : Int) = 0
                    · rw [if_pos c7438] at h
                      obtain rfl : b7437 = true := hb7437.symm.trans (beq_iff_eq.2 c7438)
                      refine VL.va (op_load 0 4 rfl rfl TI26 rfl (fun h => absurd h (by decide)) (ltn rfl)) rfl ?_
                      refine VL.va (op_build (vals := []) (vcs := []) (cells := [.string (⟨#[]⟩ : ByteArray), .int .i64 0, .int .i64 0, .int .i64 0]) SI26 rfl .nil (by kernel_rfl) (ltn rfl)) rfl ?_
                      refine VL.letter ((((t2426 == (⟨#[]⟩ : ByteArray)) && ((t2427 == 0) && ((t2428 == 0) && (t2429 == 0)))))) fun b7439 hb7439 => ?_
                      refine VL.va (op_eqS rfl rfl EG26 (EQ26 t2426 t2427 t2428 t2429 (⟨#[]⟩ : ByteArray) 0 0 0) hb7439 (ltn rfl)) rfl ?_
                      refine VL.va (op_pick rfl rfl (ltn rfl)) rfl ?_
                      refine VL.va (op_assign rfl (ltn rfl)) rfl ?_
                      refine VL.done ?_
                      refine VN.then ?_
                      refine VC.ret ?_
                      refine VR.then ?_
                      obtain rfl := Option.some.inj h
                      subst hb7439
                      exact VR.fn (rs := [.tmp 8]) [] [] [] rfl (.tmp rfl .nil) ⟨rfl, rfl, rfl⟩ trivial rfl (by decide)
                    · rw [if_neg c7438] at h
                      obtain rfl : b7437 = false := hb7437.symm.trans (beq_eq_false_iff_ne.2 c7438)
                      refine VL.un rfl rfl (ltn rfl) ?_
                      refine VL.un rfl rfl (ltn rfl) ?_
                      refine VL.un rfl rfl (ltn rfl) ?_
                      refine VL.va (op_pick rfl rfl (ltn rfl)) rfl ?_
                      refine VL.va (op_assign rfl (ltn rfl)) rfl ?_
                      refine VL.done ?_
                      refine VN.then ?_
                      refine VC.ret ?_
                      refine VR.then ?_
                      cases h
                  · rw [if_neg c7436] at h
                    obtain rfl : b7435 = false := hb7435.symm.trans (beq_eq_false_iff_ne.2 c7436)
                    refine VL.un rfl rfl (ltn rfl) ?_
                    refine VL.un rfl rfl (ltn rfl) ?_
                    refine VL.un rfl rfl (ltn rfl) ?_
                    refine VL.va (op_pick rfl rfl (ltn rfl)) rfl ?_
                    refine VL.va (op_move rfl (ltn rfl)) rfl ?_
                    refine VL.un rfl rfl (ltn rfl) ?_
                    refine VL.un rfl rfl (ltn rfl) ?_
                    refine VL.un rfl rfl (ltn rfl) ?_
                    refine VL.va (op_pick rfl rfl (ltn rfl)) rfl ?_
                    refine VL.va (op_assign rfl (ltn rfl)) rfl ?_
                    refine VL.done ?_
                    refine VN.then ?_
                    refine VC.ret ?_
                    refine VR.then ?_
                    cases h
                · rw [if_neg c7434] at h
                  obtain rfl : b7433 = false := hb7433.symm.trans (beq_eq_false_iff_ne.2 c7434)
                  refine VL.un rfl rfl (ltn rfl) ?_
                  refine VL.un rfl rfl (ltn rfl) ?_
                  refine VL.va (op_pick rfl rfl (ltn rfl)) rfl ?_
                  refine VL.va (op_move rfl (ltn rfl)) rfl ?_
                  refine VL.un rfl rfl (ltn rfl) ?_
                  refine VL.un rfl rfl (ltn rfl) ?_
                  refine VL.un rfl rfl (ltn rfl) ?_
                  refine VL.va (op_pick rfl rfl (ltn rfl)) rfl ?_
                  refine VL.va (op_move rfl (ltn rfl)) rfl ?_
                  refine VL.un rfl rfl (ltn rfl) ?_
                  refine VL.un rfl rfl (ltn rfl) ?_
                  refine VL.un rfl rfl (ltn rfl) ?_
                  refine VL.va (op_pick rfl rfl (ltn rfl)) rfl ?_
                  refine VL.va (op_assign rfl (ltn rfl)) rfl ?_
                  refine VL.done ?_
                  refine VN.then ?_
                  refine VC.ret ?_
                  refine VR.then ?_
                  cases h
              · rw [if_neg c7425] at h
                obtain rfl : b7424 = false := hb7424.symm.trans (decide_eq_false c7425)
                refine VC.cond_f rfl ?_
                refine VC.skip ?_
                refine VN.then ?_
                refine VC.letter ((t2339 == 0)) fun b7440 hb7440 => ?_
                by_cases c7441 : t2339 = 0
                · rw [if_pos c7441] at h
                  obtain rfl : b7440 = true := hb7440.symm.trans (beq_iff_eq.2 c7441)
                  replace h := Option.bind_eq_some_iff.1 h
                  obtain ⟨r7442, hA7443, h⟩ := h
                  replace h := Option.bind_eq_some_iff.1 h
                  obtain ⟨t7446, hA7447, h⟩ := h
                  by_cases c7448 : t7446 = true
                  · rw [if_pos c7448] at h
                    obtain rfl := c7448
                    refine VC.letter ((t2430 == 0)) fun b7449 hb7449 => ?_
                    by_cases c7450 : t2430 = 0
                    · rw [if_pos c7450] at h
                      obtain rfl : b7449 = true := hb7449.symm.trans (beq_iff_eq.2 c7450)
                      by_cases c7451 : 0 ≤ t6902
                      · rw [if_pos c7451] at h
                        replace h := Option.bind_eq_some_iff.1 h
                        obtain ⟨x7452, hx7452, h⟩ := h
                        refine VC.letter ((((t2426 == x7452.f0) && ((t2427 == x7452.f1) && ((t2428 == x7452.f2) && (t2429 == x7452.f3)))))) fun b7453 hb7453 => ?_
                        refine VC.openR (m := r133.length) 0 lenm rfl (pos_get hx7452) ?_
                        rintro g6369 n6370 rfl
                        refine VC.join0 (⟨179, [(8, .bool b7453)], [], [], []⟩) (True) ?_ ?_
                        · refine VC.draw ⟨0, [], [], [(g2432, 26, [.string t2426, .int .i64 t2427, .int .i64 t2428, .int .i64 t2429])], [((.slice (some ⟨g6369, 0, none⟩) r133.length n6370), 26, 4, r133.map enc25), (v2342, 26, 4, r2338.map enc25)]⟩ (by kernel_rfl) rfl (by kernel_rfl) (n := 22) (listed := LB 22 0) ?_
                          refine VA.va (i := 0) (listed' := LB 22 1) rfl (op_move rfl (ltn rfl)) rfl (by kernel_rfl) (by kernel_rfl) (by kernel_rfl) (by kernel_rfl) ⟨trivial, ⟨⟨0, rfl⟩, trivial⟩, ⟨⟨0, rfl⟩, ⟨1, rfl⟩, trivial⟩⟩ (fun _ _ _ h => h) ?_
                          refine VA.va (i := 1) (listed' := LB 22 3) rfl (op_cmp rfl rfl (congrArg some hb7440) (ltn rfl)) rfl (by kernel_rfl) (by kernel_rfl) (by kernel_rfl) (by kernel_rfl) ⟨trivial, ⟨⟨0, rfl⟩, trivial⟩, ⟨⟨0, rfl⟩, ⟨1, rfl⟩, trivial⟩⟩ (fun _ _ _ h => h) ?_
                          refine VA.va (i := 2) (listed' := LB 22 7) rfl (op_move rfl (ltn rfl)) rfl (by kernel_rfl) (by kernel_rfl) (by kernel_rfl) (by kernel_rfl) ⟨trivial, ⟨⟨0, rfl⟩, trivial⟩, ⟨⟨0, rfl⟩, ⟨1, rfl⟩, trivial⟩⟩ (fun _ _ _ h => h) ?_
                          refine VA.va (i := 3) (listed' := LB 22 15) rfl (op_move rfl (ltn rfl)) rfl (by kernel_rfl) (by kernel_rfl) (by kernel_rfl) (by kernel_rfl) ⟨trivial, ⟨⟨0, rfl⟩, trivial⟩, ⟨⟨0, rfl⟩, ⟨1, rfl⟩, trivial⟩⟩ (fun _ _ _ h => h) ?_
                          refine VA.va (i := 4) (listed' := LB 22 31) rfl (op_move rfl (ltn rfl)) rfl (by kernel_rfl) (by kernel_rfl) (by kernel_rfl) (by kernel_rfl) ⟨trivial, ⟨⟨0, rfl⟩, trivial⟩, ⟨⟨0, rfl⟩, ⟨1, rfl⟩, trivial⟩⟩ (fun _ _ _ h => h) ?_
                          refine VA.va (i := 5) (listed' := LB 22 63) rfl (op_move rfl (ltn rfl)) rfl (by kernel_rfl) (by kernel_rfl) (by kernel_rfl) (by kernel_rfl) ⟨trivial, ⟨⟨0, rfl⟩, trivial⟩, ⟨⟨0, rfl⟩, ⟨1, rfl⟩, trivial⟩⟩ (fun _ _ _ h => h) ?_
                          refine VA.oneC (i := 6) (listed' := LB 22 127) (by kernel_rfl) rfl (o_call_b0 FO28 (tarryref09_Without.ok k r133 a1 (.slice (some ⟨g6369, 0, none⟩) r133.length n6370) r7442 hA7443) rfl rfl (ltn rfl) (All_of (.cons (.inr (.inl ⟨_, List.mem_of_getElem? (i := 0) rfl, rfl⟩)) .nil)) (by rintro _ _ _ ⟨v7445, rfl, rfl, rfl⟩; rfl)) rfl (by kernel_rfl) ?_
                          rintro v7445 _ _ ⟨_, rfl, rfl, rfl⟩
                          refine ⟨⟨trivial, ⟨⟨0, rfl⟩, trivial⟩, ⟨⟨1, rfl⟩, ⟨2, rfl⟩, trivial⟩⟩, ?_⟩
                          refine VA.oneC (i := 7) (listed' := LB 22 255) (by kernel_rfl) rfl (o_call_b0 FO15 (tarryref09_Same.ok k r2338 r7442 v2342 v7445 true hA7447) rfl rfl (ltn rfl) (All_of (.cons (.inr (.inl ⟨_, List.mem_of_getElem? (i := 2) rfl, rfl⟩)) (.cons (.inr (.inl ⟨_, List.mem_of_getElem? (i := 0) rfl, rfl⟩)) .nil))) (by rintro _ _ _ ⟨rfl, rfl, rfl⟩; rfl)) rfl (by kernel_rfl) ?_
                          rintro _ _ _ ⟨rfl, rfl, rfl⟩
                          refine ⟨⟨trivial, ⟨⟨0, rfl⟩, trivial⟩, ⟨⟨1, rfl⟩, ⟨2, rfl⟩, trivial⟩⟩, ?_⟩
                          refine VA.va (i := 8) (listed' := LB 22 511) rfl (op_pick rfl rfl (ltn rfl)) rfl (by kernel_rfl) (by kernel_rfl) (by kernel_rfl) (by kernel_rfl) ⟨trivial, ⟨⟨0, rfl⟩, trivial⟩, ⟨⟨1, rfl⟩, ⟨2, rfl⟩, trivial⟩⟩ (fun _ _ _ h => h) ?_
                          refine VA.va (i := 9) (listed' := LB 22 1023) rfl (op_move rfl (ltn rfl)) rfl (by kernel_rfl) (by kernel_rfl) (by kernel_rfl) (by kernel_rfl) ⟨trivial, ⟨⟨0, rfl⟩, trivial⟩, ⟨⟨1, rfl⟩, ⟨2, rfl⟩, trivial⟩⟩ (fun _ _ _ h => h) ?_
                          refine VA.va (i := 10) (listed' := LB 22 2047) rfl (op_move rfl (ltn rfl)) rfl (by kernel_rfl) (by kernel_rfl) (by kernel_rfl) (by kernel_rfl) ⟨trivial, ⟨⟨0, rfl⟩, trivial⟩, ⟨⟨1, rfl⟩, ⟨2, rfl⟩, trivial⟩⟩ (fun _ _ _ h => h) ?_
                          refine VA.va (i := 11) (listed' := LB 22 4095) rfl (op_cmp rfl rfl (congrArg some hb7449) (ltn rfl)) rfl (by kernel_rfl) (by kernel_rfl) (by kernel_rfl) (by kernel_rfl) ⟨trivial, ⟨⟨0, rfl⟩, trivial⟩, ⟨⟨1, rfl⟩, ⟨2, rfl⟩, trivial⟩⟩ (fun _ _ _ h => h) ?_
                          refine VA.va (i := 12) (listed' := LB 22 8191) rfl (op_pick rfl rfl (ltn rfl)) rfl (by kernel_rfl) (by kernel_rfl) (by kernel_rfl) (by kernel_rfl) ⟨trivial, ⟨⟨0, rfl⟩, trivial⟩, ⟨⟨1, rfl⟩, ⟨2, rfl⟩, trivial⟩⟩ (fun _ _ _ h => h) ?_
                          refine VA.va (i := 13) (listed' := LB 22 16383) rfl (op_move rfl (ltn rfl)) rfl (by kernel_rfl) (by kernel_rfl) (by kernel_rfl) (by kernel_rfl) ⟨trivial, ⟨⟨0, rfl⟩, trivial⟩, ⟨⟨1, rfl⟩, ⟨2, rfl⟩, trivial⟩⟩ (fun _ _ _ h => h) ?_
                          refine VA.va (i := 14) (listed' := LB 22 32767) rfl (op_load 0 4 rfl rfl TI26 rfl (fun h => absurd h (by decide)) (ltn rfl)) rfl (by kernel_rfl) (by kernel_rfl) (by kernel_rfl) (by kernel_rfl) ⟨trivial, ⟨⟨0, rfl⟩, trivial⟩, ⟨⟨1, rfl⟩, ⟨2, rfl⟩, trivial⟩⟩ (fun _ _ _ h => h) ?_
                          refine VA.va (i := 15) (listed' := LB 22 65535) rfl (op_move rfl (ltn rfl)) rfl (by kernel_rfl) (by kernel_rfl) (by kernel_rfl) (by kernel_rfl) ⟨trivial, ⟨⟨0, rfl⟩, trivial⟩, ⟨⟨1, rfl⟩, ⟨2, rfl⟩, trivial⟩⟩ (fun _ _ _ h => h) ?_
                          refine VA.va (i := 16) (listed' := LB 22 131071) rfl (op_move rfl (ltn rfl)) rfl (by kernel_rfl) (by kernel_rfl) (by kernel_rfl) (by kernel_rfl) ⟨trivial, ⟨⟨0, rfl⟩, trivial⟩, ⟨⟨1, rfl⟩, ⟨2, rfl⟩, trivial⟩⟩ (fun _ _ _ h => h) ?_
                          refine VA.va (i := 17) (listed' := LB 22 262143) rfl (op_indexAddr Try.underlying22 TI26 rfl rfl c7451 (lt_get c7451 hx7452) (add_zero_at _ _) (ltn rfl)) rfl (by kernel_rfl) (by kernel_rfl) (by kernel_rfl) (by kernel_rfl) ⟨trivial, ⟨⟨0, rfl⟩, trivial⟩, ⟨⟨1, rfl⟩, ⟨2, rfl⟩, trivial⟩⟩ (fun _ _ _ h => h) ?_
                          refine VA.va (i := 18) (listed' := LB 22 524287) rfl (op_load_own (sz := 4) (o := 0) 0 t6902.toNat 4 rfl rfl (get_map hx7452) TI26 rfl (fun h => absurd h (by decide)) (ltn rfl)) rfl (by kernel_rfl) (by kernel_rfl) (by kernel_rfl) (by kernel_rfl) ⟨trivial, ⟨⟨0, rfl⟩, trivial⟩, ⟨⟨1, rfl⟩, ⟨2, rfl⟩, trivial⟩⟩ (fun _ _ _ h => h) ?_
                          refine VA.va (i := 19) (listed' := LB 22 1048575) rfl (op_eqS rfl rfl EG26 (EQ26 t2426 t2427 t2428 t2429 x7452.f0 x7452.f1 x7452.f2 x7452.f3) hb7453 (ltn rfl)) rfl (by kernel_rfl) (by kernel_rfl) (by kernel_rfl) (by kernel_rfl) ⟨trivial, ⟨⟨0, rfl⟩, trivial⟩, ⟨⟨1, rfl⟩, ⟨2, rfl⟩, trivial⟩⟩ (fun _ _ _ h => h) ?_
                          refine VA.va (i := 20) (listed' := LB 22 2097151) rfl (op_pick rfl rfl (ltn rfl)) rfl (by kernel_rfl) (by kernel_rfl) (by kernel_rfl) (by kernel_rfl) ⟨trivial, ⟨⟨0, rfl⟩, trivial⟩, ⟨⟨1, rfl⟩, ⟨2, rfl⟩, trivial⟩⟩ (fun _ _ _ h => h) ?_
                          refine VA.va (i := 21) (listed' := LB 22 4194303) rfl (op_assign rfl (ltn rfl)) rfl (by kernel_rfl) (by kernel_rfl) (by kernel_rfl) (by kernel_rfl) ⟨trivial, ⟨⟨0, rfl⟩, trivial⟩, ⟨⟨1, rfl⟩, ⟨2, rfl⟩, trivial⟩⟩ (fun _ _ _ h => h) ?_
                          refine VA.done (by kernel_rfl) ?_
                          exact VN.meet0  [] [] trivial ⟨rfl, ⟨rfl, trivial⟩, trivial, rfl, by decide, rfl, by decide⟩
                        intro _
                        refine VC.ret ?_
                        obtain rfl := Option.some.inj h
                        subst hb7453
                        exact VR.fn (rs := [.tmp 8]) [] [] [] rfl (.tmp rfl .nil) ⟨rfl, rfl, rfl⟩ trivial rfl (by decide)
                      · rw [if_neg c7451] at h; cases h
                    · rw [if_neg c7450] at h
                      obtain rfl : b7449 = false := hb7449.symm.trans (beq_eq_false_iff_ne.2 c7450)
                      refine VC.join0 (⟨179, [(8, .bool false)], [], [], []⟩) (True) ?_ ?_
                      · refine VC.draw ⟨0, [], [], [], [(v136, 26, 4, r133.map enc25), (v2342, 26, 4, r2338.map enc25)]⟩ (by kernel_rfl) rfl (by kernel_rfl) (n := 22) (listed := LB 22 0) ?_
                        refine VA.va (i := 0) (listed' := LB 22 1) rfl (op_move rfl (ltn rfl)) rfl (by kernel_rfl) (by kernel_rfl) (by kernel_rfl) (by kernel_rfl) ⟨trivial, trivial, ⟨⟨0, rfl⟩, ⟨1, rfl⟩, trivial⟩⟩ (fun _ _ _ h => h) ?_
                        refine VA.va (i := 1) (listed' := LB 22 3) rfl (op_cmp rfl rfl (congrArg some hb7440) (ltn rfl)) rfl (by kernel_rfl) (by kernel_rfl) (by kernel_rfl) (by kernel_rfl) ⟨trivial, trivial, ⟨⟨0, rfl⟩, ⟨1, rfl⟩, trivial⟩⟩ (fun _ _ _ h => h) ?_
                        refine VA.va (i := 2) (listed' := LB 22 7) rfl (op_move rfl (ltn rfl)) rfl (by kernel_rfl) (by kernel_rfl) (by kernel_rfl) (by kernel_rfl) ⟨trivial, trivial, ⟨⟨0, rfl⟩, ⟨1, rfl⟩, trivial⟩⟩ (fun _ _ _ h => h) ?_
                        refine VA.va (i := 3) (listed' := LB 22 15) rfl (op_move rfl (ltn rfl)) rfl (by kernel_rfl) (by kernel_rfl) (by kernel_rfl) (by kernel_rfl) ⟨trivial, trivial, ⟨⟨0, rfl⟩, ⟨1, rfl⟩, trivial⟩⟩ (fun _ _ _ h => h) ?_
                        refine VA.va (i := 4) (listed' := LB 22 31) rfl (op_move rfl (ltn rfl)) rfl (by kernel_rfl) (by kernel_rfl) (by kernel_rfl) (by kernel_rfl) ⟨trivial, trivial, ⟨⟨0, rfl⟩, ⟨1, rfl⟩, trivial⟩⟩ (fun _ _ _ h => h) ?_
                        refine VA.va (i := 5) (listed' := LB 22 63) rfl (op_move rfl (ltn rfl)) rfl (by kernel_rfl) (by kernel_rfl) (by kernel_rfl) (by kernel_rfl) ⟨trivial, trivial, ⟨⟨0, rfl⟩, ⟨1, rfl⟩, trivial⟩⟩ (fun _ _ _ h => h) ?_
                        refine VA.oneC (i := 6) (listed' := LB 22 127) (by kernel_rfl) rfl (o_call_b0 FO28 (tarryref09_Without.ok k r133 a1 v136 r7442 hA7443) rfl rfl (ltn rfl) (All_of (.cons (.inr (.inl ⟨_, List.mem_of_getElem? (i := 0) rfl, rfl⟩)) .nil)) (by rintro _ _ _ ⟨v7445, rfl, rfl, rfl⟩; rfl)) rfl (by kernel_rfl) ?_
                        rintro v7445 _ _ ⟨_, rfl, rfl, rfl⟩
                        refine ⟨⟨trivial, trivial, ⟨⟨1, rfl⟩, ⟨2, rfl⟩, trivial⟩⟩, ?_⟩
                        refine VA.oneC (i := 7) (listed' := LB 22 255) (by kernel_rfl) rfl (o_call_b0 FO15 (tarryref09_Same.ok k r2338 r7442 v2342 v7445 true hA7447) rfl rfl (ltn rfl) (All_of (.cons (.inr (.inl ⟨_, List.mem_of_getElem? (i := 2) rfl, rfl⟩)) (.cons (.inr (.inl ⟨_, List.mem_of_getElem? (i := 0) rfl, rfl⟩)) .nil))) (by rintro _ _ _ ⟨rfl, rfl, rfl⟩; rfl)) rfl (by kernel_rfl) ?_
                        rintro _ _ _ ⟨rfl, rfl, rfl⟩
                        refine ⟨⟨trivial, trivial, ⟨⟨1, rfl⟩, ⟨2, rfl⟩, trivial⟩⟩, ?_⟩
                        refine VA.va (i := 8) (listed' := LB 22 511) rfl (op_pick rfl rfl (ltn rfl)) rfl (by kernel_rfl) (by kernel_rfl) (by kernel_rfl) (by kernel_rfl) ⟨trivial, trivial, ⟨⟨1, rfl⟩, ⟨2, rfl⟩, trivial⟩⟩ (fun _ _ _ h => h) ?_
                        refine VA.va (i := 9) (listed' := LB 22 1023) rfl (op_move rfl (ltn rfl)) rfl (by kernel_rfl) (by kernel_rfl) (by kernel_rfl) (by kernel_rfl) ⟨trivial, trivial, ⟨⟨1, rfl⟩, ⟨2, rfl⟩, trivial⟩⟩ (fun _ _ _ h => h) ?_
                        refine VA.va (i := 10) (listed' := LB 22 2047) rfl (op_move rfl (ltn rfl)) rfl (by kernel_rfl) (by kernel_rfl) (by kernel_rfl) (by kernel_rfl) ⟨trivial, trivial, ⟨⟨1, rfl⟩, ⟨2, rfl⟩, trivial⟩⟩ (fun _ _ _ h => h) ?_
                        refine VA.va (i := 11) (listed' := LB 22 4095) rfl (op_cmp rfl rfl (congrArg some hb7449) (ltn rfl)) rfl (by kernel_rfl) (by kernel_rfl) (by kernel_rfl) (by kernel_rfl) ⟨trivial, trivial, ⟨⟨1, rfl⟩, ⟨2, rfl⟩, trivial⟩⟩ (fun _ _ _ h => h) ?_
                        refine VA.va (i := 12) (listed' := LB 22 8191) rfl (op_pick rfl rfl (ltn rfl)) rfl (by kernel_rfl) (by kernel_rfl) (by kernel_rfl) (by kernel_rfl) ⟨trivial, trivial, ⟨⟨1, rfl⟩, ⟨2, rfl⟩, trivial⟩⟩ (fun _ _ _ h => h) ?_
                        refine VA.va (i := 13) (listed' := LB 22 16383) rfl (op_move rfl (ltn rfl)) rfl (by kernel_rfl) (by kernel_rfl) (by kernel_rfl) (by kernel_rfl) ⟨trivial, trivial, ⟨⟨1, rfl⟩, ⟨2, rfl⟩, trivial⟩⟩ (fun _ _ _ h => h) ?_
                        refine VA.un (i := 14) (listed' := LB 22 32767) rfl rfl rfl (ltn rfl) (by kernel_rfl) (by kernel_rfl) (by kernel_rfl) (by kernel_rfl) ⟨trivial, trivial, ⟨⟨1, rfl⟩, ⟨2, rfl⟩, trivial⟩⟩ (fun _ _ _ h => h) ?_
                        refine VA.un (i := 15) (listed' := LB 22 65535) rfl rfl rfl (ltn rfl) (by kernel_rfl) (by kernel_rfl) (by kernel_rfl) (by kernel_rfl) ⟨trivial, trivial, ⟨⟨1, rfl⟩, ⟨2, rfl⟩, trivial⟩⟩ (fun _ _ _ h => h) ?_
                        refine VA.un (i := 16) (listed' := LB 22 131071) rfl rfl rfl (ltn rfl) (by kernel_rfl) (by kernel_rfl) (by kernel_rfl) (by kernel_rfl) ⟨trivial, trivial, ⟨⟨1, rfl⟩, ⟨2, rfl⟩, trivial⟩⟩ (fun _ _ _ h => h) ?_
                        refine VA.un (i := 17) (listed' := LB 22 262143) rfl rfl rfl (ltn rfl) (by kernel_rfl) (by kernel_rfl) (by kernel_rfl) (by kernel_rfl) ⟨trivial, trivial, ⟨⟨1, rfl⟩, ⟨2, rfl⟩, trivial⟩⟩ (fun _ _ _ h => h) ?_
                        refine VA.un (i := 18) (listed' := LB 22 524287) rfl rfl rfl (ltn rfl) (by kernel_rfl) (by kernel_rfl) (by kernel_rfl) (by kernel_rfl) ⟨trivial, trivial, ⟨⟨1, rfl⟩, ⟨2, rfl⟩, trivial⟩⟩ (fun _ _ _ h => h) ?_
                        refine VA.un (i := 19) (listed' := LB 22 1048575) rfl rfl rfl (ltn rfl) (by kernel_rfl) (by kernel_rfl) (by kernel_rfl) (by kernel_rfl) ⟨trivial, trivial, ⟨⟨1, rfl⟩, ⟨2, rfl⟩, trivial⟩⟩ (fun _ _ _ h => h) ?_
                        refine VA.va (i := 20) (listed' := LB 22 2097151) rfl (op_pick rfl rfl (ltn rfl)) rfl (by kernel_rfl) (by kernel_rfl) (by kernel_rfl) (by kernel_rfl) ⟨trivial, trivial, ⟨⟨1, rfl⟩, ⟨2, rfl⟩, trivial⟩⟩ (fun _ _ _ h => h) ?_
                        refine VA.va (i := 21) (listed' := LB 22 4194303) rfl (op_assign rfl (ltn rfl)) rfl (by kernel_rfl) (by kernel_rfl) (by kernel_rfl) (by kernel_rfl) ⟨trivial, trivial, ⟨⟨1, rfl⟩, ⟨2, rfl⟩, trivial⟩⟩ (fun _ _ _ h => h) ?_
                        refine VA.done (by kernel_rfl) ?_
                        exact VN.meet0  [] [] trivial ⟨rfl, ⟨rfl, trivial⟩, trivial, rfl, by decide, rfl, by decide⟩
                      intro _
                      refine VC.ret ?_
                      cases h
                  · rw [if_neg c7448] at h
                    obtain rfl := Bool.eq_false_iff.2 c7448
                    refine VC.join0 (⟨179, [(8, .bool false)], [], [], []⟩) (True) ?_ ?_
                    · refine VC.draw ⟨0, [], [], [], [(v136, 26, 4, r133.map enc25), (v2342, 26, 4, r2338.map enc25)]⟩ (by kernel_rfl) rfl (by kernel_rfl) (n := 22) (listed := LB 22 0) ?_
                      refine VA.va (i := 0) (listed' := LB 22 1) rfl (op_move rfl (ltn rfl)) rfl (by kernel_rfl) (by kernel_rfl) (by kernel_rfl) (by kernel_rfl) ⟨trivial, trivial, ⟨⟨0, rfl⟩, ⟨1, rfl⟩, trivial⟩⟩ (fun _ _ _ h => h) ?_
                      refine VA.va (i := 1) (listed' := LB 22 3) rfl (op_cmp rfl rfl (congrArg some hb7440) (ltn rfl)) rfl (by kernel_rfl) (by kernel_rfl) (by kernel_rfl) (by kernel_rfl) ⟨trivial, trivial, ⟨⟨0, rfl⟩, ⟨1, rfl⟩, trivial⟩⟩ (fun _ _ _ h => h) ?_
                      refine VA.va (i := 2) (listed' := LB 22 7) rfl (op_move rfl (ltn rfl)) rfl (by kernel_rfl) (by kernel_rfl) (by kernel_rfl) (by kernel_rfl) ⟨trivial, trivial, ⟨⟨0, rfl⟩, ⟨1, rfl⟩, trivial⟩⟩ (fun _ _ _ h => h) ?_
                      refine VA.va (i := 3) (listed' := LB 22 15) rfl (op_move rfl (ltn rfl)) rfl (by kernel_rfl) (by kernel_rfl) (by kernel_rfl) (by kernel_rfl) ⟨trivial, trivial, ⟨⟨0, rfl⟩, ⟨1, rfl⟩, trivial⟩⟩ (fun _ _ _ h => h) ?_
                      refine VA.va (i := 4) (listed' := LB 22 31) rfl (op_move rfl (ltn rfl)) rfl (by kernel_rfl) (by kernel_rfl) (by kernel_rfl) (by kernel_rfl) ⟨trivial, trivial, ⟨⟨0, rfl⟩, ⟨1, rfl⟩, trivial⟩⟩ (fun _ _ _ h => h) ?_
                      refine VA.va (i := 5) (listed' := LB 22 63) rfl (op_move rfl (ltn rfl)) rfl (by kernel_rfl) (by kernel_rfl) (by kernel_rfl) (by kernel_rfl) ⟨trivial, trivial, ⟨⟨0, rfl⟩, ⟨1, rfl⟩, trivial⟩⟩ (fun _ _ _ h => h) ?_
                      refine VA.oneC (i := 6) (listed' := LB 22 127) (by kernel_rfl) rfl (o_call_b0 FO28 (tarryref09_Without.ok k r133 a1 v136 r7442 hA7443) rfl rfl (ltn rfl) (All_of (.cons (.inr (.inl ⟨_, List.mem_of_getElem? (i := 0) rfl, rfl⟩)) .nil)) (by rintro _ _ _ ⟨v7445, rfl, rfl, rfl⟩; rfl)) rfl (by kernel_rfl) ?_
                      rintro v7445 _ _ ⟨_, rfl, rfl, rfl⟩
                      refine ⟨⟨trivial, trivial, ⟨⟨1, rfl⟩, ⟨2, rfl⟩, trivial⟩⟩, ?_⟩
                      refine VA.oneC (i := 7) (listed' := LB 22 255) (by kernel_rfl) rfl (o_call_b0 FO15 (tarryref09_Same.ok k r2338 r7442 v2342 v7445 false hA7447) rfl rfl (ltn rfl) (All_of (.cons (.inr (.inl ⟨_, List.mem_of_getElem? (i := 2) rfl, rfl⟩)) (.cons (.inr (.inl ⟨_, List.mem_of_getElem? (i := 0) rfl, rfl⟩)) .nil))) (by rintro _ _ _ ⟨rfl, rfl, rfl⟩; rfl)) rfl (by kernel_rfl) ?_
                      rintro _ _ _ ⟨rfl, rfl, rfl⟩
                      refine ⟨⟨trivial, trivial, ⟨⟨1, rfl⟩, ⟨2, rfl⟩, trivial⟩⟩, ?_⟩
                      refine VA.va (i := 8) (listed' := LB 22 511) rfl (op_pick rfl rfl (ltn rfl)) rfl (by kernel_rfl) (by kernel_rfl) (by kernel_rfl) (by kernel_rfl) ⟨trivial, trivial, ⟨⟨1, rfl⟩, ⟨2, rfl⟩, trivial⟩⟩ (fun _ _ _ h => h) ?_
                      refine VA.va (i := 9) (listed' := LB 22 1023) rfl (op_move rfl (ltn rfl)) rfl (by kernel_rfl) (by kernel_rfl) (by kernel_rfl) (by kernel_rfl) ⟨trivial, trivial, ⟨⟨1, rfl⟩, ⟨2, rfl⟩, trivial⟩⟩ (fun _ _ _ h => h) ?_
                      refine VA.un (i := 10) (listed' := LB 22 2047) rfl rfl rfl (ltn rfl) (by kernel_rfl) (by kernel_rfl) (by kernel_rfl) (by kernel_rfl) ⟨trivial, trivial, ⟨⟨1, rfl⟩, ⟨2, rfl⟩, trivial⟩⟩ (fun _ _ _ h => h) ?_
                      refine VA.un (i := 11) (listed' := LB 22 4095) rfl rfl rfl (ltn rfl) (by kernel_rfl) (by kernel_rfl) (by kernel_rfl) (by kernel_rfl) ⟨trivial, trivial, ⟨⟨1, rfl⟩, ⟨2, rfl⟩, trivial⟩⟩ (fun _ _ _ h => h) ?_
                      refine VA.va (i := 12) (listed' := LB 22 8191) rfl (op_pick rfl rfl (ltn rfl)) rfl (by kernel_rfl) (by kernel_rfl) (by kernel_rfl) (by kernel_rfl) ⟨trivial, trivial, ⟨⟨1, rfl⟩, ⟨2, rfl⟩, trivial⟩⟩ (fun _ _ _ h => h) ?_
                      refine VA.va (i := 13) (listed' := LB 22 16383) rfl (op_move rfl (ltn rfl)) rfl (by kernel_rfl) (by kernel_rfl) (by kernel_rfl) (by kernel_rfl) ⟨trivial, trivial, ⟨⟨1, rfl⟩, ⟨2, rfl⟩, trivial⟩⟩ (fun _ _ _ h => h) ?_
                      refine VA.un (i := 14) (listed' := LB 22 32767) rfl rfl rfl (ltn rfl) (by kernel_rfl) (by kernel_rfl) (by kernel_rfl) (by kernel_rfl) ⟨trivial, trivial, ⟨⟨1, rfl⟩, ⟨2, rfl⟩, trivial⟩⟩ (fun _ _ _ h => h) ?_
                      refine VA.un (i := 15) (listed' := LB 22 65535) rfl rfl rfl (ltn rfl) (by kernel_rfl) (by kernel_rfl) (by kernel_rfl) (by kernel_rfl) ⟨trivial, trivial, ⟨⟨1, rfl⟩, ⟨2, rfl⟩, trivial⟩⟩ (fun _ _ _ h => h) ?_
                      refine VA.un (i := 16) (listed' := LB 22 131071) rfl rfl rfl (ltn rfl) (by kernel_rfl) (by kernel_rfl) (by kernel_rfl) (by kernel_rfl) ⟨trivial, trivial, ⟨⟨1, rfl⟩, ⟨2, rfl⟩, trivial⟩⟩ (fun _ _ _ h => h) ?_
                      refine VA.un (i := 17) (listed' := LB 22 262143) rfl rfl rfl (ltn rfl) (by kernel_rfl) (by kernel_rfl) (by kernel_rfl) (by kernel_rfl) ⟨trivial, trivial, ⟨⟨1, rfl⟩, ⟨2, rfl⟩, trivial⟩⟩ (fun _ _ _ h => h) ?_
                      refine VA.un (i := 18) (listed' := LB 22 524287) rfl rfl rfl (ltn rfl) (by kernel_rfl) (by kernel_rfl) (by kernel_rfl) (by kernel_rfl) ⟨trivial, trivial, ⟨⟨1, rfl⟩, ⟨2, rfl⟩, trivial⟩⟩ (fun _ _ _ h => h) ?_
                      refine VA.un (i := 19) (listed' := LB 22 1048575) rfl rfl rfl (ltn rfl) (by kernel_rfl) (by kernel_rfl) (by kernel_rfl) (by kernel_rfl) ⟨trivial, trivial, ⟨⟨1, rfl⟩, ⟨2, rfl⟩, trivial⟩⟩ (fun _ _ _ h => h) ?_
                      refine VA.va (i := 20) (listed' := LB 22 2097151) rfl (op_pick rfl rfl (ltn rfl)) rfl (by kernel_rfl) (by kernel_rfl) (by kernel_rfl) (by kernel_rfl) ⟨trivial, trivial, ⟨⟨1, rfl⟩, ⟨2, rfl⟩, trivial⟩⟩ (fun _ _ _ h => h) ?_
                      refine VA.va (i := 21) (listed' := LB 22 4194303) rfl (op_assign rfl (ltn rfl)) rfl (by kernel_rfl) (by kernel_rfl) (by kernel_rfl) (by kernel_rfl) ⟨trivial, trivial, ⟨⟨1, rfl⟩, ⟨2, rfl⟩, trivial⟩⟩ (fun _ _ _ h => h) ?_
                      refine VA.done (by kernel_rfl) ?_
                      exact VN.meet0  [] [] trivial ⟨rfl, ⟨rfl, trivial⟩, trivial, rfl, by decide, rfl, by decide⟩
                    intro _
                    refine VC.ret ?_
                    cases h
                · rw [if_neg c7441] at h
                  obtain rfl : b7440 = false := hb7440.symm.trans (beq_eq_false_iff_ne.2 c7441)
                  refine VC.join0 (⟨179, [(8, .bool false)], [], [], []⟩) (True) ?_ ?_
                  · refine VC.draw ⟨0, [], [], [], []⟩ (by kernel_rfl) rfl (by kernel_rfl) (n := 22) (listed := LB 22 0) ?_
                    refine VA.va (i := 0) (listed' := LB 22 1) rfl (op_move rfl (ltn rfl)) rfl (by kernel_rfl) (by kernel_rfl) (by kernel_rfl) (by kernel_rfl) ⟨trivial, trivial, trivial⟩ (fun _ _ _ h => h) ?_
                    refine VA.va (i := 1) (listed' := LB 22 3) rfl (op_cmp rfl rfl (congrArg some hb7440) (ltn rfl)) rfl (by kernel_rfl) (by kernel_rfl) (by kernel_rfl) (by kernel_rfl) ⟨trivial, trivial, trivial⟩ (fun _ _ _ h => h) ?_
                    refine VA.va (i := 2) (listed' := LB 22 7) rfl (op_move rfl (ltn rfl)) rfl (by kernel_rfl) (by kernel_rfl) (by kernel_rfl) (by kernel_rfl) ⟨trivial, trivial, trivial⟩ (fun _ _ _ h => h) ?_
                    refine VA.un (i := 3) (listed' := LB 22 15) rfl rfl rfl (ltn rfl) (by kernel_rfl) (by kernel_rfl) (by kernel_rfl) (by kernel_rfl) ⟨trivial, trivial, trivial⟩ (fun _ _ _ h => h) ?_
                    refine VA.un (i := 4) (listed' := LB 22 31) rfl rfl rfl (ltn rfl) (by kernel_rfl) (by kernel_rfl) (by kernel_rfl) (by kernel_rfl) ⟨trivial, trivial, trivial⟩ (fun _ _ _ h => h) ?_
                    refine VA.un (i := 5) (listed' := LB 22 63) rfl rfl rfl (ltn rfl) (by kernel_rfl) (by kernel_rfl) (by kernel_rfl) (by kernel_rfl) ⟨trivial, trivial, trivial⟩ (fun _ _ _ h => h) ?_
                    refine VA.un (i := 6) (listed' := LB 22 127) rfl rfl rfl (ltn rfl) (by kernel_rfl) (by kernel_rfl) (by kernel_rfl) (by kernel_rfl) ⟨trivial, trivial, trivial⟩ (fun _ _ _ h => h) ?_
                    refine VA.un (i := 7) (listed' := LB 22 255) rfl rfl rfl (ltn rfl) (by kernel_rfl) (by kernel_rfl) (by kernel_rfl) (by kernel_rfl) ⟨trivial, trivial, trivial⟩ (fun _ _ _ h => h) ?_
                    refine VA.va (i := 8) (listed' := LB 22 511) rfl (op_pick rfl rfl (ltn rfl)) rfl (by kernel_rfl) (by kernel_rfl) (by kernel_rfl) (by kernel_rfl) ⟨trivial, trivial, trivial⟩ (fun _ _ _ h => h) ?_
                    refine VA.va (i := 9) (listed' := LB 22 1023) rfl (op_move rfl (ltn rfl)) rfl (by kernel_rfl) (by kernel_rfl) (by kernel_rfl) (by kernel_rfl) ⟨trivial, trivial, trivial⟩ (fun _ _ _ h => h) ?_
                    refine VA.un (i := 10) (listed' := LB 22 2047) rfl rfl rfl (ltn rfl) (by kernel_rfl) (by kernel_rfl) (by kernel_rfl) (by kernel_rfl) ⟨trivial, trivial, trivial⟩ (fun _ _ _ h => h) ?_
                    refine VA.un (i := 11) (listed' := LB 22 4095) rfl rfl rfl (ltn rfl) (by kernel_rfl) (by kernel_rfl) (by kernel_rfl) (by kernel_rfl) ⟨trivial, trivial, trivial⟩ (fun _ _ _ h => h) ?_
                    refine VA.va (i := 12) (listed' := LB 22 8191) rfl (op_pick rfl rfl (ltn rfl)) rfl (by kernel_rfl) (by kernel_rfl) (by kernel_rfl) (by kernel_rfl) ⟨trivial, trivial, trivial⟩ (fun _ _ _ h => h) ?_
                    refine VA.va (i := 13) (listed' := LB 22 16383) rfl (op_move rfl (ltn rfl)) rfl (by kernel_rfl) (by kernel_rfl) (by kernel_rfl) (by kernel_rfl) ⟨trivial, trivial, trivial⟩ (fun _ _ _ h => h) ?_
                    refine VA.un (i := 14) (listed' := LB 22 32767) rfl rfl rfl (ltn rfl) (by kernel_rfl) (by kernel_rfl) (by kernel_rfl) (by kernel_rfl) ⟨trivial, trivial, trivial⟩ (fun _ _ _ h => h) ?_
                    refine VA.un (i := 15) (listed' := LB 22 65535) rfl rfl rfl (ltn rfl) (by kernel_rfl) (by kernel_rfl) (by kernel_rfl) (by kernel_rfl) ⟨trivial, trivial, trivial⟩ (fun _ _ _ h => h) ?_
                    refine VA.un (i := 16) (listed' := LB 22 131071) rfl rfl rfl (ltn rfl) (by kernel_rfl) (by kernel_rfl) (by kernel_rfl) (by kernel_rfl) ⟨trivial, trivial, trivial⟩ (fun _ _ _ h => h) ?_
                    refine VA.un (i := 17) (listed' := LB 22 262143) rfl rfl rfl (ltn rfl) (by kernel_rfl) (by kernel_rfl) (by kernel_rfl) (by kernel_rfl) ⟨trivial, trivial, trivial⟩ (fun _ _ _ h => h) ?_
                    refine VA.un (i := 18) (listed' := LB 22 524287) rfl rfl rfl (ltn rfl) (by kernel_rfl) (by kernel_rfl) (by kernel_rfl) (by kernel_rfl) ⟨trivial, trivial, trivial⟩ (fun _ _ _ h => h) ?_
                    refine VA.un (i := 19) (listed' := LB 22 1048575) rfl rfl rfl (ltn rfl) (by kernel_rfl) (by kernel_rfl) (by kernel_rfl) (by kernel_rfl) ⟨trivial, trivial, trivial⟩ (fun _ _ _ h => h) ?_
                    refine VA.va (i := 20) (listed' := LB 22 2097151) rfl (op_pick rfl rfl (ltn rfl)) rfl (by kernel_rfl) (by kernel_rfl) (by kernel_rfl) (by kernel_rfl) ⟨trivial, trivial, trivial⟩ (fun _ _ _ h => h) ?_
                    refine VA.va (i := 21) (listed' := LB 22 4194303) rfl (op_assign rfl (ltn rfl)) rfl (by kernel_rfl) (by kernel_rfl) (by kernel_rfl) (by kernel_rfl) ⟨trivial, trivial, trivial⟩ (fun _ _ _ h => h) ?_
                    refine VA.done (by kernel_rfl) ?_
                    exact VN.meet0  [] [] trivial ⟨rfl, ⟨rfl, trivial⟩, trivial, rfl, by decide, rfl, by decide⟩
                  intro _
                  refine VC.ret ?_
                  cases h
            · rw [if_neg c6901] at h
              obtain rfl := Bool.eq_false_iff.2 c6901
              refine VL.va (op_not rfl rfl (ltn rfl)) rfl ?_
              refine VL.va (op_pick rfl rfl (ltn rfl)) rfl ?_
              refine VL.done ?_
              refine VN.then ?_
              refine VC.cond_t rfl ?_
              refine VC.seq ?_
              refine VC.region ?_
              refine VL.va (op_assign rfl (ltn rfl)) rfl ?_
              refine VL.done ?_
              refine VN.then ?_
              refine VC.ret ?_
              refine VR.then ?_
              cases h
          · rw [if_neg c6894] at h
            obtain rfl : b6893 = true := hb6893.symm.trans (bne_iff_ne.2 c6894)
            refine VL.un rfl rfl (ltn rfl) ?_
            refine VL.un rfl rfl (ltn rfl) ?_
            refine VL.un rfl rfl (ltn rfl) ?_
            refine VL.un rfl rfl (ltn rfl) ?_
            refine VL.un rfl rfl (ltn rfl) ?_
            refine VL.un rfl rfl (ltn rfl) ?_
            refine VL.va (op_pick rfl rfl (ltn rfl)) rfl ?_
            refine VL.done ?_
            refine VN.then ?_
            refine VC.cond_t rfl ?_
            refine VC.seq ?_
            refine VC.region ?_
            refine VL.va (op_assign rfl (ltn rfl)) rfl ?_
            refine VL.done ?_
            refine VN.then ?_
            refine VC.ret ?_
            refine VR.then ?_
            cases h
      · rw [if_neg c2668] at h
        obtain rfl := Bool.eq_false_iff.2 c2668
        refine VL.va (op_not rfl rfl (ltn rfl)) rfl ?_
        refine VL.done ?_
        refine VN.then ?_
        refine VC.cond_t rfl ?_
        refine VC.seq ?_
        refine VC.region ?_
        refine VL.va (op_assign rfl (ltn rfl)) rfl ?_
        refine VL.done ?_
        refine VN.then ?_
        refine VC.ret ?_
        refine VR.then ?_
        cases h
    · rw [if_neg c138] at h; cases h
  · rw [if_neg c137] at h; cases h

end Go.Proofs.Ytdofmkbffffbpaa.PWaitsGo
