/- Written by a program of this repo: what the program's functions do, each as a Lean function, shown of the loaded code; or a statement's row over that; no condition of its own. -/
import Derived.Test.YtdofmkbffffbpaaPWaitsBuiltx5
namespace Go.Proofs.Ytdofmkbffffbpaa.PWaitsBuilt
open Go Go.RowKit Go.Proofs.YtdofmkbffffbpaaV
set_option linter.unusedVariables false
set_option linter.unusedSimpArgs false

set_option maxHeartbeats 4000000 in
set_option maxRecDepth 100000 in
theorem waits_Put.ok (k : Nat) (l0 : List S25) (a1_0 : ByteArray) (a1_1 : Int) (a1_2 : Int) (a1_3 : Int) (v0 : Value) (r1 : List S25) (r2 : Int) (h : waits_Put.f k l0 a1_0 a1_1 a1_2 a1_3 = some (r1, r2)) :
    VCalls Try.prog 10 [v0, .agg #[.string a1_0, .int .i64 a1_1, .int .i64 a1_2, .int .i64 a1_3]] [.row v0 4 (l0.map enc25)] (fun v G own => ∃ w0 : Value, v = .tuple #[w0, .int .i64 r2] ∧ G = [] ∧ own = [(w0, 26, 4, r1.map enc25)]) := by
  refine VCalls.intro Try.func10 rfl (len rfl) fun E hC hW hD hU => ?_
  unfold waits_Put.f at h
  refine VC.seq ?_
  refine VC.region ?_
  refine VL.sG (o_box rfl (.agg (.of rfl)) (ltn rfl)) rfl ?_
  intro g2508
  refine VL.va (op_assign rfl (ltn rfl)) rfl ?_
  refine VL.va (op_assign rfl (ltn rfl)) rfl ?_
  refine VL.done ?_
  refine VN.then ?_
  refine VC.seq ?_
  refine VC.block ?_
  refine VC.seq ?_
  refine VC.region ?_
  refine VL.va (op_move rfl (ltn rfl)) rfl ?_
  replace h := Option.bind_eq_some_iff.1 h
  obtain ⟨t2536, hA2537, h⟩ := h
  refine VL.sC (o_call0 FO11 (waits_Right.ok k l0 v0 t2536 hA2537) rfl rfl (ltn rfl) (All_of (.cons (List.mem_of_getElem? (i := 0) rfl) .nil))) rfl ?_
  rintro _ _ _ ⟨rfl, rfl, rfl⟩
  by_cases c2538 : t2536 = true
  · rw [if_pos c2538] at h
    obtain rfl := c2538
    refine VL.va (op_not rfl rfl (ltn rfl)) rfl ?_
    refine VL.va (op_move rfl (ltn rfl)) rfl ?_
    refine VL.va (op_load 0 4 rfl rfl TI26 rfl (fun h => absurd h (by decide)) (ltn rfl)) rfl ?_
    replace h := Option.bind_eq_some_iff.1 h
    obtain ⟨t2539, hA2540, h⟩ := h
    refine VL.sC (o_call0 FO33 (waits_may.ok k a1_0 a1_1 a1_2 a1_3 t2539 hA2540) rfl rfl (ltn rfl) (All_of .nil)) rfl ?_
    rintro _ _ _ ⟨rfl, rfl, rfl⟩
    by_cases c2541 : t2539 = true
    · rw [if_pos c2541] at h
      obtain rfl := c2541
      refine VL.va (op_not rfl rfl (ltn rfl)) rfl ?_
      refine VL.va (op_pick rfl rfl (ltn rfl)) rfl ?_
      refine VL.va (op_assign rfl (ltn rfl)) rfl ?_
      refine VL.done ?_
      refine VN.then ?_
      refine VC.cond_f rfl ?_
      refine VC.seq ?_
      refine VC.region ?_
      refine VL.va (op_move rfl (ltn rfl)) rfl ?_
      refine VL.va (op_load 0 4 rfl rfl TI26 rfl (fun h => absurd h (by decide)) (ltn rfl)) rfl ?_
      refine VL.va (op_makeFuncB (vals := [.agg #[.string a1_0, .int .i64 a1_1, .int .i64 a1_2, .int .i64 a1_3]]) rfl (ltn rfl)) rfl ?_
      replace h := Option.bind_eq_some_iff.1 h
      obtain ⟨t2542, hA2543, h⟩ := h
      refine VL.sC (o_call0 FO34 (slices_ContainsFunc_api_Line_api_Line.ok k l0 a1_0 a1_1 a1_2 a1_3 v0 t2542 hA2543) rfl rfl (ltn rfl) (All_of (.cons (List.mem_of_getElem? (i := 0) rfl) .nil))) rfl ?_
      rintro _ _ _ ⟨rfl, rfl, rfl⟩
      refine VL.va (op_assign rfl (ltn rfl)) rfl ?_
      refine VL.done ?_
      refine VN.then ?_
      by_cases c2544 : t2542 = true
      · rw [if_pos c2544] at h
        obtain rfl := c2544
        refine VC.cond_t rfl ?_
        refine VC.seq ?_
        refine VC.region ?_
        refine VL.va (op_assign rfl (ltn rfl)) rfl ?_
        refine VL.va (op_assign rfl (ltn rfl)) rfl ?_
        refine VL.done ?_
        refine VN.then ?_
        refine VC.ret ?_
        refine VR.block ?_
        refine VR.then ?_
        simp only [Option.some.injEq, Prod.mk.injEq] at h
        obtain ⟨rfl, rfl⟩ := h
        refine VR.nilRow' 26 4 ?_
        exact VR.fn (rs := [.tmp 4, .tmp 5]) [] [((.slice none 0 0), 26, 4, ([] : List S25).map enc25)] [0] rfl (.tmp rfl (.tmp rfl .nil)) ⟨(.slice none 0 0), rfl, rfl, rfl⟩ trivial rfl (by decide)
      · rw [if_neg c2544] at h
        obtain rfl := Bool.eq_false_iff.2 c2544
        refine VC.cond_f rfl ?_
        refine VC.seq ?_
        refine VC.region ?_
        refine VL.va (op_move rfl (ltn rfl)) rfl ?_
        refine VL.va (op_len (m := l0.length) 0 lenm Try.underlying22 rfl rfl (ltn rfl)) rfl ?_
        refine VL.letter (((l0.length : Int) == 32)) fun b2546 hb2546 => ?_
        refine VL.va (op_cmp rfl rfl (congrArg some hb2546) (ltn rfl)) rfl ?_
        refine VL.va (op_assign rfl (ltn rfl)) rfl ?_
        refine VL.done ?_
        refine VN.then ?_
        by_cases c2547 : (l0.length : Int) = 32
        · rw [if_pos c2547] at h
          obtain rfl : b2546 = true := hb2546.symm.trans (beq_iff_eq.2 c2547)
          refine VC.cond_t rfl ?_
          refine VC.seq ?_
          refine VC.region ?_
          refine VL.va (op_assign rfl (ltn rfl)) rfl ?_
          refine VL.va (op_assign rfl (ltn rfl)) rfl ?_
          refine VL.done ?_
          refine VN.then ?_
          refine VC.ret ?_
          refine VR.block ?_
          refine VR.then ?_
          simp only [Option.some.injEq, Prod.mk.injEq] at h
          obtain ⟨rfl, rfl⟩ := h
          refine VR.nilRow' 26 4 ?_
          exact VR.fn (rs := [.tmp 4, .tmp 5]) [] [((.slice none 0 0), 26, 4, ([] : List S25).map enc25)] [0] rfl (.tmp rfl (.tmp rfl .nil)) ⟨(.slice none 0 0), rfl, rfl, rfl⟩ trivial rfl (by decide)
        · rw [if_neg c2547] at h
          obtain rfl : b2546 = false := hb2546.symm.trans (beq_eq_false_iff_ne.2 c2547)
          refine VC.cond_f rfl ?_
          refine VC.skip ?_
          refine VN.block ?_
          refine VN.then ?_
          replace h := Option.bind_eq_some_iff.1 h
          obtain ⟨r2549, hA2550, h⟩ := h
          by_cases c2555 : (r2549.length + ([(⟨a1_0, a1_1, a1_2, a1_3⟩ : S25)] : List S25).length) * 40 ≤ 140737488355328
          · rw [if_pos c2555] at h
            replace h := Option.bind_eq_some_iff.1 h
            obtain ⟨⟨r2558, t2559⟩, hA2560, h⟩ := h
            dsimp only at h
            refine VC.join1 (fun (v2562 : Value) => ⟨32, [(4, v2562), (5, .int .i64 t2559)], [], [], [(v2562, 26, 4, r2558.map enc25)]⟩) (fun (v2562 : Value) => True) ?_ ?_
            · refine VC.draw ⟨0, [], [.row v0 4 (l0.map enc25)], [(g2508, 26, [.string a1_0, .int .i64 a1_1, .int .i64 a1_2, .int .i64 a1_3])], []⟩ (by kernel_rfl) rfl (by kernel_rfl) (n := 10) (listed := LB 10 0) ?_
              refine VA.va (i := 0) (listed' := LB 10 1) rfl (op_move rfl (ltn rfl)) rfl (by kernel_rfl) (by kernel_rfl) (by kernel_rfl) (by kernel_rfl) ⟨⟨⟨0, rfl⟩, trivial⟩, ⟨⟨0, rfl⟩, trivial⟩, trivial⟩ (fun _ _ _ h => h) ?_
              refine VA.va (i := 2) (listed' := LB 10 5) rfl (op_load 0 4 rfl rfl TI26 rfl (fun h => absurd h (by decide)) (ltn rfl)) rfl (by kernel_rfl) (by kernel_rfl) (by kernel_rfl) (by kernel_rfl) ⟨⟨⟨0, rfl⟩, trivial⟩, ⟨⟨0, rfl⟩, trivial⟩, trivial⟩ (fun _ _ _ h => h) ?_
              refine VA.all [1, 3] (by kernel_rfl) (by simp) ?_
              refine VAll.consC (listed' := LB 10 7) rfl (o_call0 FO36 (slices_Clip_api_Line_api_Line.ok l0 v0 r2549 hA2550) rfl rfl (ltn rfl) (All_of (.cons (List.mem_of_getElem? (i := 0) rfl) .nil))) rfl (by kernel_rfl) ?_ ?_
              · rintro _ _ _ ⟨A2551, rfl, rfl, rfl⟩
                refine ⟨⟨⟨⟨1, rfl⟩, trivial⟩, ⟨⟨0, rfl⟩, trivial⟩, trivial⟩, ?_⟩
                refine VA.oneG (i := 3) (listed' := LB 10 15) (by kernel_rfl) rfl (o_buildSlice (vals := [(0, .agg #[.string a1_0, .int .i64 a1_1, .int .i64 a1_2, .int .i64 a1_3])]) (cells := #[.string a1_0, .int .i64 a1_1, .int .i64 a1_2, .int .i64 a1_3]) (es := List.map enc25 ([(⟨a1_0, a1_1, a1_2, a1_3⟩ : S25)] : List S25)) Try.underlying22 TI26 Z26 rfl (by decide) (by decide) (by kernel_rfl) (by kernel_rfl) rfl (flat_map enc25_ok _) (ltn rfl)) rfl (by kernel_rfl) (fun _ => ⟨⟨⟨1, rfl⟩, trivial⟩, ⟨⟨0, rfl⟩, trivial⟩, trivial⟩) ?_
                intro v2554
                refine VA.oneG (i := 4) (listed' := LB 10 31) (by kernel_rfl) rfl (o_append_clip 0 appm Try.underlying22 EI26 rfl rfl rfl (.inr ⟨0, _, rfl⟩) (bndm c2555) (ltn rfl)) rfl (by kernel_rfl) (fun _ => ⟨⟨⟨2, rfl⟩, trivial⟩, ⟨⟨0, rfl⟩, trivial⟩, trivial⟩) ?_
                intro v2556
                refine VA.oneC (i := 5) (listed' := LB 10 63) (by kernel_rfl) rfl (o_call0 FO9 (waits_Make.ok k (r2549 ++ ([(⟨a1_0, a1_1, a1_2, a1_3⟩ : S25)] : List S25)) v2556 r2558 t2559 hA2560) rfl rfl (ltn rfl) (All_of (.cons (List.mem_of_getElem? (i := 0) rfl) .nil))) rfl (by kernel_rfl) ?_
                rintro _ _ _ ⟨v2562, rfl, rfl, rfl⟩
                refine ⟨⟨⟨⟨2, rfl⟩, trivial⟩, ⟨⟨0, rfl⟩, trivial⟩, trivial⟩, ?_⟩
                refine VA.more ⟨0, [], [.row v0 4 (l0.map enc25)], [(g2508, 26, [.string a1_0, .int .i64 a1_1, .int .i64 a1_2, .int .i64 a1_3])], [(v2562, 26, 4, r2558.map enc25)]⟩ ⟨⟨⟨0, rfl⟩, trivial⟩, ⟨⟨0, rfl⟩, trivial⟩, trivial⟩ ?_
                refine VA.va (i := 6) (listed' := LB 10 127) rfl (op_extract rfl rfl (ltn rfl)) rfl (by kernel_rfl) (by kernel_rfl) (by kernel_rfl) (by kernel_rfl) ⟨⟨⟨2, rfl⟩, trivial⟩, ⟨⟨0, rfl⟩, trivial⟩, ⟨⟨0, rfl⟩, trivial⟩⟩ (fun _ _ _ h => h) ?_
                refine VA.va (i := 7) (listed' := LB 10 255) rfl (op_extract rfl rfl (ltn rfl)) rfl (by kernel_rfl) (by kernel_rfl) (by kernel_rfl) (by kernel_rfl) ⟨⟨⟨2, rfl⟩, trivial⟩, ⟨⟨0, rfl⟩, trivial⟩, ⟨⟨0, rfl⟩, trivial⟩⟩ (fun _ _ _ h => h) ?_
                refine VA.va (i := 8) (listed' := LB 10 511) rfl (op_assign rfl (ltn rfl)) rfl (by kernel_rfl) (by kernel_rfl) (by kernel_rfl) (by kernel_rfl) ⟨⟨⟨2, rfl⟩, trivial⟩, ⟨⟨0, rfl⟩, trivial⟩, ⟨⟨0, rfl⟩, trivial⟩⟩ (fun _ _ _ h => h) ?_
                refine VA.va (i := 9) (listed' := LB 10 1023) rfl (op_assign rfl (ltn rfl)) rfl (by kernel_rfl) (by kernel_rfl) (by kernel_rfl) (by kernel_rfl) ⟨⟨⟨2, rfl⟩, trivial⟩, ⟨⟨0, rfl⟩, trivial⟩, ⟨⟨0, rfl⟩, trivial⟩⟩ (fun _ _ _ h => h) ?_
                refine VA.done (by kernel_rfl) ?_
                exact VN.meet1 v2562 [] [0] trivial ⟨rfl, ⟨rfl, rfl, trivial⟩, trivial, rfl, by decide, rfl, by decide⟩
              refine VAll.consG (listed' := LB 10 13) rfl (o_buildSlice (vals := [(0, .agg #[.string a1_0, .int .i64 a1_1, .int .i64 a1_2, .int .i64 a1_3])]) (cells := #[.string a1_0, .int .i64 a1_1, .int .i64 a1_2, .int .i64 a1_3]) (es := List.map enc25 ([(⟨a1_0, a1_1, a1_2, a1_3⟩ : S25)] : List S25)) Try.underlying22 TI26 Z26 rfl (by decide) (by decide) (by kernel_rfl) (by kernel_rfl) rfl (flat_map enc25_ok _) (ltn rfl)) rfl (by kernel_rfl) (fun _ => ⟨⟨⟨0, rfl⟩, trivial⟩, ⟨⟨0, rfl⟩, trivial⟩, trivial⟩) ?_ VAll.nil
              intro v2554
              refine VA.oneC (i := 1) (listed' := LB 10 15) (by kernel_rfl) rfl (o_call0 FO36 (slices_Clip_api_Line_api_Line.ok l0 v0 r2549 hA2550) rfl rfl (ltn rfl) (All_of (.cons (List.mem_of_getElem? (i := 0) rfl) .nil))) rfl (by kernel_rfl) ?_
              rintro _ _ _ ⟨A2551, rfl, rfl, rfl⟩
              refine ⟨⟨⟨⟨1, rfl⟩, trivial⟩, ⟨⟨0, rfl⟩, trivial⟩, trivial⟩, ?_⟩
              refine VA.oneG (i := 4) (listed' := LB 10 31) (by kernel_rfl) rfl (o_append_clip 0 appm Try.underlying22 EI26 rfl rfl rfl (.inr ⟨0, _, rfl⟩) (bndm c2555) (ltn rfl)) rfl (by kernel_rfl) (fun _ => ⟨⟨⟨2, rfl⟩, trivial⟩, ⟨⟨0, rfl⟩, trivial⟩, trivial⟩) ?_
              intro v2556
              refine VA.oneC (i := 5) (listed' := LB 10 63) (by kernel_rfl) rfl (o_call0 FO9 (waits_Make.ok k (r2549 ++ ([(⟨a1_0, a1_1, a1_2, a1_3⟩ : S25)] : List S25)) v2556 r2558 t2559 hA2560) rfl rfl (ltn rfl) (All_of (.cons (List.mem_of_getElem? (i := 0) rfl) .nil))) rfl (by kernel_rfl) ?_
              rintro _ _ _ ⟨v2562, rfl, rfl, rfl⟩
              refine ⟨⟨⟨⟨2, rfl⟩, trivial⟩, ⟨⟨0, rfl⟩, trivial⟩, trivial⟩, ?_⟩
              refine VA.more ⟨0, [], [.row v0 4 (l0.map enc25)], [(g2508, 26, [.string a1_0, .int .i64 a1_1, .int .i64 a1_2, .int .i64 a1_3])], [(v2562, 26, 4, r2558.map enc25)]⟩ ⟨⟨⟨0, rfl⟩, trivial⟩, ⟨⟨0, rfl⟩, trivial⟩, trivial⟩ ?_
              refine VA.va (i := 6) (listed' := LB 10 127) rfl (op_extract rfl rfl (ltn rfl)) rfl (by kernel_rfl) (by kernel_rfl) (by kernel_rfl) (by kernel_rfl) ⟨⟨⟨2, rfl⟩, trivial⟩, ⟨⟨0, rfl⟩, trivial⟩, ⟨⟨0, rfl⟩, trivial⟩⟩ (fun _ _ _ h => h) ?_
              refine VA.va (i := 7) (listed' := LB 10 255) rfl (op_extract rfl rfl (ltn rfl)) rfl (by kernel_rfl) (by kernel_rfl) (by kernel_rfl) (by kernel_rfl) ⟨⟨⟨2, rfl⟩, trivial⟩, ⟨⟨0, rfl⟩, trivial⟩, ⟨⟨0, rfl⟩, trivial⟩⟩ (fun _ _ _ h => h) ?_
              refine VA.va (i := 8) (listed' := LB 10 511) rfl (op_assign rfl (ltn rfl)) rfl (by kernel_rfl) (by kernel_rfl) (by kernel_rfl) (by kernel_rfl) ⟨⟨⟨2, rfl⟩, trivial⟩, ⟨⟨0, rfl⟩, trivial⟩, ⟨⟨0, rfl⟩, trivial⟩⟩ (fun _ _ _ h => h) ?_
              refine VA.va (i := 9) (listed' := LB 10 1023) rfl (op_assign rfl (ltn rfl)) rfl (by kernel_rfl) (by kernel_rfl) (by kernel_rfl) (by kernel_rfl) ⟨⟨⟨2, rfl⟩, trivial⟩, ⟨⟨0, rfl⟩, trivial⟩, ⟨⟨0, rfl⟩, trivial⟩⟩ (fun _ _ _ h => h) ?_
              refine VA.done (by kernel_rfl) ?_
              exact VN.meet1 v2562 [] [0] trivial ⟨rfl, ⟨rfl, rfl, trivial⟩, trivial, rfl, by decide, rfl, by decide⟩
            intro v2562 _
            refine VC.ret ?_
            simp only [Option.some.injEq, Prod.mk.injEq] at h
            obtain ⟨rfl, rfl⟩ := h
            exact VR.fn (rs := [.tmp 4, .tmp 5]) [] [(v2562, 26, 4, r2558.map enc25)] [0] rfl (.tmp rfl (.tmp rfl .nil)) ⟨v2562, rfl, rfl, rfl⟩ trivial rfl (by decide)
          · rw [if_neg c2555] at h; cases h
    · rw [if_neg c2541] at h
      obtain rfl := Bool.eq_false_iff.2 c2541
      refine VL.va (op_not rfl rfl (ltn rfl)) rfl ?_
      refine VL.va (op_pick rfl rfl (ltn rfl)) rfl ?_
      refine VL.va (op_assign rfl (ltn rfl)) rfl ?_
      refine VL.done ?_
      refine VN.then ?_
      refine VC.cond_t rfl ?_
      refine VC.seq ?_
      refine VC.region ?_
      refine VL.va (op_assign rfl (ltn rfl)) rfl ?_
      refine VL.va (op_assign rfl (ltn rfl)) rfl ?_
      refine VL.done ?_
      refine VN.then ?_
      refine VC.ret ?_
      refine VR.block ?_
      refine VR.then ?_
      simp only [Option.some.injEq, Prod.mk.injEq] at h
      obtain ⟨rfl, rfl⟩ := h
      refine VR.nilRow' 26 4 ?_
      exact VR.fn (rs := [.tmp 4, .tmp 5]) [] [((.slice none 0 0), 26, 4, ([] : List S25).map enc25)] [0] rfl (.tmp rfl (.tmp rfl .nil)) ⟨(.slice none 0 0), rfl, rfl, rfl⟩ trivial rfl (by decide)
  · rw [if_neg c2538] at h
    obtain rfl := Bool.eq_false_iff.2 c2538
    refine VL.va (op_not rfl rfl (ltn rfl)) rfl ?_
    refine VL.va (op_move rfl (ltn rfl)) rfl ?_
    refine VL.un rfl rfl (ltn rfl) ?_
    refine VL.un rfl rfl (ltn rfl) ?_
    refine VL.un rfl rfl (ltn rfl) ?_
    refine VL.va (op_pick rfl rfl (ltn rfl)) rfl ?_
    refine VL.va (op_assign rfl (ltn rfl)) rfl ?_
    refine VL.done ?_
    refine VN.then ?_
    refine VC.cond_t rfl ?_
    refine VC.seq ?_
    refine VC.region ?_
    refine VL.va (op_assign rfl (ltn rfl)) rfl ?_
    refine VL.va (op_assign rfl (ltn rfl)) rfl ?_
    refine VL.done ?_
    refine VN.then ?_
    refine VC.ret ?_
    refine VR.block ?_
    refine VR.then ?_
    simp only [Option.some.injEq, Prod.mk.injEq] at h
    obtain ⟨rfl, rfl⟩ := h
    refine VR.nilRow' 26 4 ?_
    exact VR.fn (rs := [.tmp 4, .tmp 5]) [] [((.slice none 0 0), 26, 4, ([] : List S25).map enc25)] [0] rfl (.tmp rfl (.tmp rfl .nil)) ⟨(.slice none 0 0), rfl, rfl, rfl⟩ trivial rfl (by decide)
set_option maxHeartbeats 4000000 in
set_option maxRecDepth 100000 in
theorem tarryref09_Same.ok (k : Nat) (l0 : List S25) (l1 : List S25) (v0 : Value) (v1 : Value) (r1 : Bool) (h : tarryref09_Same.f k l0 l1 = some r1) :
    VCalls Try.prog 15 [v0, v1] [.row v0 4 (l0.map enc25), .row v1 4 (l1.map enc25)] (fun v G own => v = .bool r1 ∧ G = [] ∧ own = []) := by
  refine VCalls.intro Try.func15 rfl (len rfl) fun E hC hW hD hU => ?_
  unfold tarryref09_Same.f at h
  refine VC.seq ?_
  refine VC.region ?_
  refine VL.va (op_assign rfl (ltn rfl)) rfl ?_
  refine VL.done ?_
  refine VN.then ?_
  refine VC.seq ?_
  refine VC.seq ?_
  refine VC.region ?_
  refine VL.va (op_move rfl (ltn rfl)) rfl ?_
  refine VL.va (op_len (m := l0.length) 0 lenm Try.underlying22 rfl rfl (ltn rfl)) rfl ?_
  refine VL.va (op_move rfl (ltn rfl)) rfl ?_
  refine VL.va (op_len (m := l1.length) 1 lenm Try.underlying22 rfl rfl (ltn rfl)) rfl ?_
  refine VL.letter (((l0.length : Int) != (l1.length : Int))) fun b2743 hb2743 => ?_
  refine VL.va (op_cmp rfl rfl (congrArg some hb2743) (ltn rfl)) rfl ?_
  refine VL.done ?_
  refine VN.then ?_
  by_cases c2744 : (l0.length : Int) = (l1.length : Int)
  · rw [if_pos c2744] at h
    obtain rfl : b2743 = false := hb2743.symm.trans (bne_eq_false_iff_eq.2 c2744)
    refine VC.cond_f rfl ?_
    refine VC.skip ?_
    refine VN.then ?_
    refine VC.seq ?_
    refine VC.seq ?_
    refine VC.region ?_
    refine VL.va (op_move rfl (ltn rfl)) rfl ?_
    refine VL.va (op_len (m := l0.length) 0 lenm Try.underlying22 rfl rfl (ltn rfl)) rfl ?_
    refine VL.va (op_move rfl (ltn rfl)) rfl ?_
    refine VL.done ?_
    refine VN.then ?_
    refine VC.block ?_
    refine VC.loop1 (fun (i2798 : Int) => ⟨26, [(0, v0), (1, v1), (4, .bool false), (12, .int .i64 (l0.length : Int)), (13, .int .i64 i2798)], [.row v0 4 (l0.map enc25), .row v1 4 (l1.map enc25)], [], []⟩) (fun (ml1 : Nat) (i2798 : Int) => tarryref09_Same.l1 k l0 l1 ml1 i2798 = some r1) k 0 [] [] h ⟨rfl, ⟨rfl, rfl, rfl, rfl, rfl, trivial⟩, ⟨⟨0, rfl⟩, ⟨1, rfl⟩, trivial⟩, rfl, by decide, rfl, by decide⟩ (by intros; simp [tarryref09_Same.l1]) ?_
    clear h
    intro ml1 ihl1 i2798 h
    simp only [tarryref09_Same.l1] at h
    refine VC.seq ?_
    refine VC.region ?_
    refine VL.letter (decide (i2798 < (l0.length : Int))) fun b2812 hb2812 => ?_
    refine VL.va (op_cmp rfl rfl (congrArg some hb2812) (ltn rfl)) rfl ?_
    refine VL.done ?_
    refine VN.then ?_
    refine VC.seq ?_
    by_cases c2814 : i2798 < (l0.length : Int)
    · rw [if_pos c2814] at h
      obtain rfl : b2812 = true := hb2812.symm.trans (decide_eq_true c2814)
      refine VC.cond_t rfl ?_
      refine VC.skip ?_
      refine VN.then ?_
      refine VC.seq ?_
      refine VC.block ?_
      refine VC.seq ?_
      refine VC.region ?_
      refine VL.va (op_move rfl (ltn rfl)) rfl ?_
      refine VL.va (op_assign rfl (ltn rfl)) rfl ?_
      refine VL.done ?_
      refine VN.then ?_
      by_cases c2820 : 0 ≤ i2798
      · rw [if_pos c2820] at h
        replace h := Option.bind_eq_some_iff.1 h
        obtain ⟨x2821, hx2821, h⟩ := h
        replace h := Option.bind_eq_some_iff.1 h
        obtain ⟨x2822, hx2822, h⟩ := h
        refine VC.letter ((!(((x2821.f0 == x2822.f0) && ((x2821.f1 == x2822.f1) && ((x2821.f2 == x2822.f2) && (x2821.f3 == x2822.f3))))))) fun b2823 hb2823 => ?_
        refine VC.open (m := l0.length) 0 lenm rfl (pos_get hx2821) ?_
        rintro ad2749 n2750 rfl
        refine VC.open (m := l1.length) 1 lenm rfl (pos_get hx2822) ?_
        rintro ad2752 n2753 rfl
        refine VC.join0 (⟨26, [(0, (.slice (some ad2749) l0.length n2750)), (1, (.slice (some ad2752) l1.length n2753)), (4, .bool false), (5, .int .i64 i2798), (12, .int .i64 (l0.length : Int)), (13, .int .i64 i2798), (14, .bool true), (15, .int .i64 i2798), (16, (.slice (some ad2749) l0.length n2750)), (17, .int .i64 i2798), (19, .agg #[.string x2821.f0, .int .i64 x2821.f1, .int .i64 x2821.f2, .int .i64 x2821.f3]), (20, (.slice (some ad2752) l1.length n2753)), (21, .int .i64 i2798), (23, .agg #[.string x2822.f0, .int .i64 x2822.f1, .int .i64 x2822.f2, .int .i64 x2822.f3]), (24, .bool b2823)], [.row (.slice (some ad2749) l0.length n2750) 4 (l0.map enc25), .row (.slice (some ad2752) l1.length n2753) 4 (l1.map enc25)], [], []⟩) (True) ?_ ?_
        · refine VC.draw ⟨0, [], [.row (.slice (some ad2749) l0.length n2750) 4 (l0.map enc25), .row (.slice (some ad2752) l1.length n2753) 4 (l1.map enc25)], [], []⟩ (by kernel_rfl) rfl (by kernel_rfl) (n := 9) (listed := LB 9 0) ?_
          refine VA.va (i := 0) (listed' := LB 9 1) rfl (op_move rfl (ltn rfl)) rfl (by kernel_rfl) (by kernel_rfl) (by kernel_rfl) (by kernel_rfl) ⟨⟨⟨0, rfl⟩, ⟨1, rfl⟩, trivial⟩, trivial, trivial⟩ (fun _ _ _ h => h) ?_
          refine VA.va (i := 1) (listed' := LB 9 3) rfl (op_move rfl (ltn rfl)) rfl (by kernel_rfl) (by kernel_rfl) (by kernel_rfl) (by kernel_rfl) ⟨⟨⟨0, rfl⟩, ⟨1, rfl⟩, trivial⟩, trivial, trivial⟩ (fun _ _ _ h => h) ?_
          refine VA.va (i := 2) (listed' := LB 9 7) rfl (op_indexAddr Try.underlying22 TI26 rfl rfl c2820 (lt_get c2820 hx2821) rfl (ltn rfl)) rfl (by kernel_rfl) (by kernel_rfl) (by kernel_rfl) (by kernel_rfl) ⟨⟨⟨0, rfl⟩, ⟨1, rfl⟩, trivial⟩, trivial, trivial⟩ (fun _ _ _ h => h) ?_
          refine VA.va (i := 3) (listed' := LB 9 15) rfl (op_load_row (sz := 4) (o := 0) 0 i2798.toNat 4 rfl rfl (get_map hx2821) TI26 rfl (fun h => absurd h (by decide)) (ltn rfl)) rfl (by kernel_rfl) (by kernel_rfl) (by kernel_rfl) (by kernel_rfl) ⟨⟨⟨0, rfl⟩, ⟨1, rfl⟩, trivial⟩, trivial, trivial⟩ (fun _ _ _ h => h) ?_
          refine VA.va (i := 4) (listed' := LB 9 31) rfl (op_move rfl (ltn rfl)) rfl (by kernel_rfl) (by kernel_rfl) (by kernel_rfl) (by kernel_rfl) ⟨⟨⟨0, rfl⟩, ⟨1, rfl⟩, trivial⟩, trivial, trivial⟩ (fun _ _ _ h => h) ?_
          refine VA.va (i := 5) (listed' := LB 9 63) rfl (op_move rfl (ltn rfl)) rfl (by kernel_rfl) (by kernel_rfl) (by kernel_rfl) (by kernel_rfl) ⟨⟨⟨0, rfl⟩, ⟨1, rfl⟩, trivial⟩, trivial, trivial⟩ (fun _ _ _ h => h) ?_
          refine VA.va (i := 6) (listed' := LB 9 127) rfl (op_indexAddr Try.underlying22 TI26 rfl rfl c2820 (lt_get c2820 hx2822) rfl (ltn rfl)) rfl (by kernel_rfl) (by kernel_rfl) (by kernel_rfl) (by kernel_rfl) ⟨⟨⟨0, rfl⟩, ⟨1, rfl⟩, trivial⟩, trivial, trivial⟩ (fun _ _ _ h => h) ?_
          refine VA.va (i := 7) (listed' := LB 9 255) rfl (op_load_row (sz := 4) (o := 0) 1 i2798.toNat 4 rfl rfl (get_map hx2822) TI26 rfl (fun h => absurd h (by decide)) (ltn rfl)) rfl (by kernel_rfl) (by kernel_rfl) (by kernel_rfl) (by kernel_rfl) ⟨⟨⟨0, rfl⟩, ⟨1, rfl⟩, trivial⟩, trivial, trivial⟩ (fun _ _ _ h => h) ?_
          refine VA.va (i := 8) (listed' := LB 9 511) rfl (op_neS rfl rfl EG26 (EQ26 x2821.f0 x2821.f1 x2821.f2 x2821.f3 x2822.f0 x2822.f1 x2822.f2 x2822.f3) hb2823 (ltn rfl)) rfl (by kernel_rfl) (by kernel_rfl) (by kernel_rfl) (by kernel_rfl) ⟨⟨⟨0, rfl⟩, ⟨1, rfl⟩, trivial⟩, trivial, trivial⟩ (fun _ _ _ h => h) ?_
          refine VA.done (by kernel_rfl) ?_
          exact VN.meet0  [] [] trivial ⟨rfl, ⟨rfl, rfl, rfl, rfl, rfl, rfl, rfl, rfl, rfl, rfl, rfl, rfl, rfl, rfl, rfl, trivial⟩, ⟨⟨0, rfl⟩, ⟨1, rfl⟩, trivial⟩, rfl, by decide, rfl, by decide⟩
        intro _
        by_cases c2824 : (((x2821.f0 == x2822.f0) && ((x2821.f1 == x2822.f1) && ((x2821.f2 == x2822.f2) && (x2821.f3 == x2822.f3))))) = true
        · rw [if_pos c2824] at h
          obtain rfl : b2823 = false := hb2823.symm.trans (not_t c2824)
          refine VC.cond_f rfl ?_
          refine VC.skip ?_
          refine VN.block ?_
          refine VN.then ?_
          refine VC.region ?_
          refine VL.va (op_ari64 rfl rfl rfl (ltn rfl)) rfl ?_
          refine VL.va (op_move rfl (ltn rfl)) rfl ?_
          refine VL.done ?_
          refine VN.again [] [] (ihl1 (wrap64 (i2798 + 1)) h) ⟨rfl, ⟨rfl, rfl, rfl, rfl, rfl, trivial⟩, ⟨⟨0, rfl⟩, ⟨1, rfl⟩, trivial⟩, rfl, by decide, rfl, by decide⟩
        · rw [if_neg c2824] at h
          obtain rfl : b2823 = true := hb2823.symm.trans (not_f c2824)
          refine VC.cond_t rfl ?_
          refine VC.seq ?_
          refine VC.region ?_
          refine VL.va (op_assign rfl (ltn rfl)) rfl ?_
          refine VL.done ?_
          refine VN.then ?_
          refine VC.ret ?_
          refine VR.block ?_
          refine VR.then ?_
          refine VR.then ?_
          refine VR.block ?_
          refine VR.then ?_
          obtain rfl := Option.some.inj h
          exact VR.fn (rs := [.tmp 4]) [] [] [] rfl (.tmp rfl .nil) ⟨rfl, rfl, rfl⟩ trivial rfl (by decide)
      · rw [if_neg c2820] at h; cases h
    · rw [if_neg c2814] at h
      obtain rfl : b2812 = false := hb2812.symm.trans (decide_eq_false c2814)
      refine VC.cond_f rfl ?_
      refine VC.exit ?_
      refine VX.then ?_
      refine VX.then ?_
      refine VX.hit ?_
      refine VN.then ?_
      refine VC.seq ?_
      refine VC.region ?_
      refine VL.va (op_assign rfl (ltn rfl)) rfl ?_
      refine VL.done ?_
      refine VN.then ?_
      refine VC.ret ?_
      obtain rfl := Option.some.inj h
      exact VR.fn (rs := [.tmp 4]) [] [] [] rfl (.tmp rfl .nil) ⟨rfl, rfl, rfl⟩ trivial rfl (by decide)
  · rw [if_neg c2744] at h
    obtain rfl : b2743 = true := hb2743.symm.trans (bne_iff_ne.2 c2744)
    refine VC.cond_t rfl ?_
    refine VC.seq ?_
    refine VC.region ?_
    refine VL.va (op_assign rfl (ltn rfl)) rfl ?_
    refine VL.done ?_
    refine VN.then ?_
    refine VC.ret ?_
    refine VR.then ?_
    obtain rfl := Option.some.inj h
    exact VR.fn (rs := [.tmp 4]) [] [] [] rfl (.tmp rfl .nil) ⟨rfl, rfl, rfl⟩ trivial rfl (by decide)
set_option maxHeartbeats 4000000 in
set_option maxRecDepth 100000 in
theorem waits_at_1.ok (a0_0 : ByteArray) (a0_1 : Int) (a0_2 : Int) (a0_3 : Int) (a1_0 : Int) (p1 : Nat) (r1 : Bool) (h : waits_at_1.f a0_0 a0_1 a0_2 a0_3 a1_0 = some r1) :
    VCalls Try.prog 53 [.agg #[.string a0_0, .int .i64 a0_1, .int .i64 a0_2, .int .i64 a0_3], .pointer (some ⟨p1, 0, none⟩)] [.at_ ⟨p1, 0, none⟩ [.int .i64 a1_0]] (fun v G own => v = .bool r1 ∧ G = [] ∧ own = []) := by
  refine VCalls.intro Try.func53 rfl (len rfl) fun E hC hW hD hU => ?_
  unfold waits_at_1.f at h
  refine VC.seq ?_
  refine VC.region ?_
  refine VL.sG (o_box rfl (.agg (.of rfl)) (ltn rfl)) rfl ?_
  intro g2881
  refine VL.va (op_assign rfl (ltn rfl)) rfl ?_
  refine VL.done ?_
  refine VN.then ?_
  refine VC.seq ?_
  refine VC.region ?_
  refine VL.va (op_fieldAddr FI26_1 rfl (add_at _ _ _) (ltn rfl)) rfl ?_
  refine VL.va (op_fieldAddr FI24_2 rfl (add_at _ _ _) (ltn rfl)) rfl ?_
  refine VL.va (op_load 0 1 rfl rfl TI3 rfl (by decide) (ltn rfl)) rfl ?_
  refine VL.va (op_load_at (ad := ⟨p1, 0, none⟩) 0 0 1 (by first | rfl | exact congrArg (fun a => some (Value.pointer (some a))) (add_at _ 0 _).symm) rfl TI3 rfl (by decide) (ltn rfl)) rfl ?_
  refine VL.letter ((a0_3 == a1_0)) fun b2882 hb2882 => ?_
  refine VL.va (op_cmp rfl rfl (congrArg some hb2882) (ltn rfl)) rfl ?_
  refine VL.va (op_assign rfl (ltn rfl)) rfl ?_
  refine VL.done ?_
  refine VN.then ?_
  refine VC.ret ?_
  obtain rfl := Option.some.inj h
  subst hb2882
  exact VR.fn (rs := [.tmp 3]) [] [] [] rfl (.tmp rfl .nil) ⟨rfl, rfl, rfl⟩ trivial rfl (by decide)
set_option maxHeartbeats 4000000 in
set_option maxRecDepth 100000 in
theorem slices_IndexFunc_api_Line_api_Line_s50.ok (k : Nat) (l0 : List S25) (a1_0_0 : Int) (v0 : Value) (p1_0 : Nat) (r1 : Int) (h : slices_IndexFunc_api_Line_api_Line_s50.f k l0 a1_0_0 = some r1) :
    VCalls Try.prog 50 [v0, (.func (.func 53) #[] #[.pointer (some ⟨p1_0, 0, none⟩)])] [.row v0 4 (l0.map enc25), .at_ ⟨p1_0, 0, none⟩ [.int .i64 a1_0_0]] (fun v G own => v = .int .i64 r1 ∧ G = [] ∧ own = []) := by
  refine VCalls.intro Try.func50 rfl (len rfl) fun E hC hW hD hU => ?_
  unfold slices_IndexFunc_api_Line_api_Line_s50.f at h
  refine VC.seq ?_
  refine VC.region ?_
  refine VL.va (op_assign rfl (ltn rfl)) rfl ?_
  refine VL.done ?_
  refine VN.then ?_
  refine VC.seq ?_
  refine VC.seq ?_
  refine VC.region ?_
  refine VL.va (op_move rfl (ltn rfl)) rfl ?_
  refine VL.va (op_len (m := l0.length) 0 lenm Try.underlying22 rfl rfl (ltn rfl)) rfl ?_
  refine VL.va (op_move rfl (ltn rfl)) rfl ?_
  refine VL.done ?_
  refine VN.then ?_
  refine VC.block ?_
  refine VC.loop1 (fun (i2942 : Int) => ⟨19, [(0, v0), (1, (.func (.func 53) #[] #[.pointer (some ⟨p1_0, 0, none⟩)])), (4, .int .i64 0), (7, .int .i64 (l0.length : Int)), (8, .int .i64 i2942)], [.at_ ⟨p1_0, 0, none⟩ [.int .i64 a1_0_0], .row v0 4 (l0.map enc25)], [], []⟩) (fun (ml1 : Nat) (i2942 : Int) => slices_IndexFunc_api_Line_api_Line_s50.l1 k a1_0_0 l0 ml1 i2942 = some r1) k 0 [] [] h ⟨rfl, ⟨rfl, rfl, rfl, rfl, rfl, trivial⟩, ⟨⟨1, rfl⟩, ⟨0, rfl⟩, trivial⟩, rfl, by decide, rfl, by decide⟩ (by intros; simp [slices_IndexFunc_api_Line_api_Line_s50.l1]) ?_
  clear h
  intro ml1 ihl1 i2942 h
  simp only [slices_IndexFunc_api_Line_api_Line_s50.l1] at h
  refine VC.seq ?_
  refine VC.region ?_
  refine VL.letter (decide (i2942 < (l0.length : Int))) fun b2960 hb2960 => ?_
  refine VL.va (op_cmp rfl rfl (congrArg some hb2960) (ltn rfl)) rfl ?_
  refine VL.done ?_
  refine VN.then ?_
  refine VC.seq ?_
  by_cases c2962 : i2942 < (l0.length : Int)
  · rw [if_pos c2962] at h
    obtain rfl : b2960 = true := hb2960.symm.trans (decide_eq_true c2962)
    refine VC.cond_t rfl ?_
    refine VC.skip ?_
    refine VN.then ?_
    refine VC.seq ?_
    refine VC.block ?_
    refine VC.seq ?_
    refine VC.region ?_
    refine VL.va (op_move rfl (ltn rfl)) rfl ?_
    refine VL.va (op_assign rfl (ltn rfl)) rfl ?_
    refine VL.done ?_
    refine VN.then ?_
    refine VC.seq ?_
    refine VC.region ?_
    refine VL.va (op_move rfl (ltn rfl)) rfl ?_
    refine VL.va (op_move rfl (ltn rfl)) rfl ?_
    refine VL.va (op_move rfl (ltn rfl)) rfl ?_
    by_cases c2970 : 0 ≤ i2942
    · rw [if_pos c2970] at h
      replace h := Option.bind_eq_some_iff.1 h
      obtain ⟨x2971, hx2971, h⟩ := h
      refine VL.open (m := l0.length) 1 lenm rfl (pos_get hx2971) ?_
      rintro ad2972 n2973 rfl
      refine VL.va (op_indexAddr Try.underlying22 TI26 rfl rfl c2970 (lt_get c2970 hx2971) rfl (ltn rfl)) rfl ?_
      refine VL.va (op_load_row (sz := 4) (o := 0) 1 i2942.toNat 4 rfl rfl (get_map hx2971) TI26 rfl (fun h => absurd h (by decide)) (ltn rfl)) rfl ?_
      replace h := Option.bind_eq_some_iff.1 h
      obtain ⟨t2974, hA2975, h⟩ := h
      refine VL.sC (o_call (vals := [.agg #[.string x2971.f0, .int .i64 x2971.f1, .int .i64 x2971.f2, .int .i64 x2971.f3]]) (caps := [.pointer (some ⟨p1_0, 0, none⟩)]) FO53 (waits_at_1.ok x2971.f0 x2971.f1 x2971.f2 x2971.f3 a1_0_0 p1_0 t2974 hA2975) rfl rfl (ltn rfl) (All_of (.cons (List.mem_of_getElem? (i := 0) rfl) .nil))) rfl ?_
      rintro _ _ _ ⟨rfl, rfl, rfl⟩
      refine VL.done ?_
      refine VN.then ?_
      by_cases c2976 : t2974 = true
      · rw [if_pos c2976] at h
        obtain rfl := c2976
        refine VC.cond_t rfl ?_
        refine VC.seq ?_
        refine VC.region ?_
        refine VL.va (op_move rfl (ltn rfl)) rfl ?_
        refine VL.va (op_assign rfl (ltn rfl)) rfl ?_
        refine VL.done ?_
        refine VN.then ?_
        refine VC.ret ?_
        refine VR.block ?_
        refine VR.then ?_
        refine VR.then ?_
        refine VR.block ?_
        refine VR.then ?_
        obtain rfl := Option.some.inj h
        exact VR.fn (rs := [.tmp 4]) [] [] [] rfl (.tmp rfl .nil) ⟨rfl, rfl, rfl⟩ trivial rfl (by decide)
      · rw [if_neg c2976] at h
        obtain rfl := Bool.eq_false_iff.2 c2976
        refine VC.cond_f rfl ?_
        refine VC.skip ?_
        refine VN.block ?_
        refine VN.then ?_
        refine VC.region ?_
        refine VL.va (op_ari64 rfl rfl rfl (ltn rfl)) rfl ?_
        refine VL.va (op_move rfl (ltn rfl)) rfl ?_
        refine VL.done ?_
        refine VN.again [] [] (ihl1 (wrap64 (i2942 + 1)) h) ⟨rfl, ⟨rfl, rfl, rfl, rfl, rfl, trivial⟩, ⟨⟨0, rfl⟩, ⟨1, rfl⟩, trivial⟩, rfl, by decide, rfl, by decide⟩
    · rw [if_neg c2970] at h; cases h
  · rw [if_neg c2962] at h
    obtain rfl : b2960 = false := hb2960.symm.trans (decide_eq_false c2962)
    refine VC.cond_f rfl ?_
    refine VC.exit ?_
    refine VX.then ?_
    refine VX.then ?_
    refine VX.hit ?_
    refine VN.then ?_
    refine VC.seq ?_
    refine VC.region ?_
    refine VL.va (op_assign rfl (ltn rfl)) rfl ?_
    refine VL.done ?_
    refine VN.then ?_
    refine VC.ret ?_
    obtain rfl := Option.some.inj h
    exact VR.fn (rs := [.tmp 4]) [] [] [] rfl (.tmp rfl .nil) ⟨rfl, rfl, rfl⟩ trivial rfl (by decide)
set_option maxHeartbeats 4000000 in
set_option maxRecDepth 100000 in
theorem waits_at.ok (k : Nat) (l0 : List S25) (a1 : Int) (v0 : Value) (r1 : Int) (r2 : Int) (h : waits_at.f k l0 a1 = some (r1, r2)) :
    VCalls Try.prog 41 [v0, .int .i64 a1] [.row v0 4 (l0.map enc25)] (fun v G own => v = .tuple #[.int .i64 r1, .int .i64 r2] ∧ G = [] ∧ own = []) := by
  refine VCalls.intro Try.func41 rfl (len rfl) fun E hC hW hD hU => ?_
  unfold waits_at.f at h
  refine VC.seq ?_
  refine VC.region ?_
  refine VL.sG (o_box rfl (.c rfl) (ltn rfl)) rfl ?_
  intro g2861
  refine VL.va (op_assign rfl (ltn rfl)) rfl ?_
  refine VL.va (op_assign rfl (ltn rfl)) rfl ?_
  refine VL.done ?_
  refine VN.then ?_
  refine VC.seq ?_
  refine VC.seq ?_
  refine VC.region ?_
  refine VL.va (op_move rfl (ltn rfl)) rfl ?_
  replace h := Option.bind_eq_some_iff.1 h
  obtain ⟨t2871, hA2872, h⟩ := h
  refine VL.sC (o_call0 FO11 (waits_Right.ok k l0 v0 t2871 hA2872) rfl rfl (ltn rfl) (All_of (.cons (List.mem_of_getElem? (i := 0) rfl) .nil))) rfl ?_
  rintro _ _ _ ⟨rfl, rfl, rfl⟩
  by_cases c2873 : t2871 = true
  · rw [if_pos c2873] at h
    obtain rfl := c2873
    refine VL.va (op_not rfl rfl (ltn rfl)) rfl ?_
    refine VL.done ?_
    refine VN.then ?_
    refine VC.cond_f rfl ?_
    refine VC.skip ?_
    refine VN.then ?_
    refine VC.seq ?_
    refine VC.region ?_
    refine VL.va (op_move rfl (ltn rfl)) rfl ?_
    refine VL.va (op_makeFunc (vals := [.pointer (some ⟨g2861, 0, none⟩)]) rfl (ltn rfl)) rfl ?_
    refine VL.freeze' 0 rfl ?_
    replace h := Option.bind_eq_some_iff.1 h
    obtain ⟨t2977, hA2978, h⟩ := h
    refine VL.sC (o_call0 FO50 (slices_IndexFunc_api_Line_api_Line_s50.ok k l0 a1 v0 g2861 t2977 hA2978) rfl rfl (ltn rfl) (All_of (.cons (List.mem_of_getElem? (i := 1) rfl) (.cons (List.mem_of_getElem? (i := 0) rfl) .nil)))) rfl ?_
    rintro _ _ _ ⟨rfl, rfl, rfl⟩
    refine VL.va (op_assign rfl (ltn rfl)) rfl ?_
    refine VL.done ?_
    refine VN.then ?_
    refine VC.seq ?_
    refine VC.seq ?_
    refine VC.region ?_
    refine VL.va (op_move rfl (ltn rfl)) rfl ?_
    refine VL.letter (decide (t2977 < 0)) fun b2981 hb2981 => ?_
    refine VL.va (op_cmp rfl rfl (congrArg some hb2981) (ltn rfl)) rfl ?_
    refine VL.done ?_
    refine VN.then ?_
    by_cases c2982 : t2977 < 0
    · rw [if_pos c2982] at h
      obtain rfl : b2981 = true := hb2981.symm.trans (decide_eq_true c2982)
      refine VC.cond_t rfl ?_
      refine VC.seq ?_
      refine VC.region ?_
      refine VL.va (op_assign rfl (ltn rfl)) rfl ?_
      refine VL.va (op_assign rfl (ltn rfl)) rfl ?_
      refine VL.done ?_
      refine VN.then ?_
      refine VC.ret ?_
      refine VR.then ?_
      simp only [Option.some.injEq, Prod.mk.injEq] at h
      obtain ⟨rfl, rfl⟩ := h
      exact VR.fn (rs := [.tmp 4, .tmp 5]) [] [] [] rfl (.tmp rfl (.tmp rfl .nil)) ⟨rfl, rfl, rfl⟩ trivial rfl (by decide)
    · rw [if_neg c2982] at h
      obtain rfl : b2981 = false := hb2981.symm.trans (decide_eq_false c2982)
      refine VC.cond_f rfl ?_
      refine VC.skip ?_
      refine VN.then ?_
      refine VC.seq ?_
      refine VC.region ?_
      refine VL.va (op_move rfl (ltn rfl)) rfl ?_
      refine VL.va (op_assign rfl (ltn rfl)) rfl ?_
      refine VL.va (op_assign rfl (ltn rfl)) rfl ?_
      refine VL.done ?_
      refine VN.then ?_
      refine VC.ret ?_
      simp only [Option.some.injEq, Prod.mk.injEq] at h
      obtain ⟨rfl, rfl⟩ := h
      exact VR.fn (rs := [.tmp 4, .tmp 5]) [] [] [] rfl (.tmp rfl (.tmp rfl .nil)) ⟨rfl, rfl, rfl⟩ trivial rfl (by decide)
  · rw [if_neg c2873] at h
    obtain rfl := Bool.eq_false_iff.2 c2873
    refine VL.va (op_not rfl rfl (ltn rfl)) rfl ?_
    refine VL.done ?_
    refine VN.then ?_
    refine VC.cond_t rfl ?_
    refine VC.seq ?_
    refine VC.region ?_
    refine VL.va (op_assign rfl (ltn rfl)) rfl ?_
    refine VL.va (op_assign rfl (ltn rfl)) rfl ?_
    refine VL.done ?_
    refine VN.then ?_
    refine VC.ret ?_
    refine VR.then ?_
    simp only [Option.some.injEq, Prod.mk.injEq] at h
    obtain ⟨rfl, rfl⟩ := h
    exact VR.fn (rs := [.tmp 4, .tmp 5]) [] [] [] rfl (.tmp rfl (.tmp rfl .nil)) ⟨rfl, rfl, rfl⟩ trivial rfl (by decide)
set_option maxHeartbeats 4000000 in
set_option maxRecDepth 100000 in
theorem slices_Delete_api_Line_api_Line.ok (l0 : List S25) (a1 : Int) (a2 : Int) (v0 : Value) (r1 : List S25) (h : slices_Delete_api_Line_api_Line.f l0 a1 a2 = some r1) :
    VOwn Try.prog 43 [v0, .int .i64 a1, .int .i64 a2] (v0, 26, 4, l0.map enc25) [] (fun q x' => x' = (q, 26, 4, r1.map enc25)) := by
  unfold slices_Delete_api_Line_api_Line.f at h
  by_cases hc : ¬ (0 ≤ a1 ∧ a1 ≤ a2 ∧ a2 ≤ (l0.length : Int))
  · rw [if_neg hc] at h; cases h
  replace hc := Decidable.not_not.1 hc
  rw [if_pos hc] at h
  obtain rfl := Option.some.inj h
  obtain ⟨h0, h12, h2n⟩ := hc
  clear h
  obtain ⟨i, rfl⟩ : ∃ i : Nat, a1 = (i : Int) := ⟨a1.toNat, by omega⟩
  obtain ⟨j, rfl⟩ : ∃ j : Nat, a2 = (j : Int) := ⟨a2.toNat, by omega⟩
  have hij : i ≤ j := by omega
  have hjn : j ≤ l0.length := by omega
  simp only [Int.toNat_natCast]
  refine VOwn.intro Try.func43 rfl (len rfl) fun E fr hW hD hU => ?_
  refine VC.formR 0 rfl fun A cap hv hcap => ?_
  rw [lenm] at hv hcap
  subst hv
  refine VC.seq (VC.region ?_)
  refine VL.va (op_assign rfl (ltn rfl)) rfl ?_
  refine VL.done (VN.then ?_)
  refine VC.seq (VC.region ?_)
  refine VL.va (op_move rfl (ltn rfl)) rfl ?_
  refine VL.va (op_move rfl (ltn rfl)) rfl ?_
  refine VL.va (op_move rfl (ltn rfl)) rfl ?_
  refine VL.va (op_move rfl (ltn rfl)) rfl ?_
  refine VL.va (op_lenV Try.underlying22 rfl (ltn rfl)) rfl ?_
  refine VL.va (op_slice3 Try.underlying22 TI26 rfl rfl rfl rfl hij hjn hcap (ltn rfl)) rfl ?_
  refine VL.done (VN.then ?_)
  refine VC.seq ?_
  refine VC.seq (VC.region ?_)
  refine VL.va (op_move rfl (ltn rfl)) rfl ?_
  refine VL.va (op_move rfl (ltn rfl)) rfl ?_
  refine VL.letter ((i : Int) == (j : Int)) fun b3 hb3 => ?_
  refine VL.va (op_cmp rfl rfl (congrArg some hb3) (ltn rfl)) rfl ?_
  refine VL.done (VN.then ?_)
  by_cases c3 : i = j
  · have : b3 = true := by rw [← hb3, c3]; simp
    subst this
    clear hb3
    refine VC.cond_t rfl ?_
    refine VC.seq (VC.region ?_)
    refine VL.va (op_move rfl (ltn rfl)) rfl ?_
    refine VL.va (op_assign rfl (ltn rfl)) rfl ?_
    refine VL.done (VN.then ?_)
    refine VC.ret (VR.then ?_)
    refine VR.own (rs := [.tmp 6]) 0 [] rfl (.tmp rfl .nil) rfl ?_ rfl id
    rw [c3, List.take_append_drop]
    rfl
  have : b3 = false := by rw [← hb3]; simpa using fun e => c3 (by omega)
  subst this
  clear hb3
  have hlt : i < j := by omega
  refine VC.cond_f rfl (VC.skip (VN.then ?_))
  refine VC.openBox 0 rfl (by rw [lenm]; omega) fun g cap' cur hv hcap' hmx hlen htake hfl => ?_
  rw [lenm] at hv hcap' htake
  obtain ⟨rfl, -, rfl⟩ := Value.slice.inj hv
  clear hv hcap'
  refine VC.seq (VC.region ?_)
  refine VL.va (op_move rfl (ltn rfl)) rfl ?_
  refine VL.va (op_lenV Try.underlying22 rfl (ltn rfl)) rfl ?_
  refine VL.va (op_assign rfl (ltn rfl)) rfl ?_
  refine VL.done (VN.then ?_)
  have hd : ((cur.drop (j * 4)).take ((l0.length - j) * 4)).length = (l0.length - j) * 4 := by rw [List.length_take, List.length_drop, hlen]; omega
  have h1c : ∀ u ∈ (cur.drop (j * 4)).take ((l0.length - j) * 4), u.oneCell' = true := by
    intro u hu
    have e : (cur.drop (j * 4)).take ((l0.length - j) * 4) = (cur.take (l0.length * 4)).drop (j * 4) := by
      rw [List.drop_take]
      congr 1
      omega
    rw [e, htake] at hu
    exact flat_one hfl u (List.mem_of_mem_drop hu)
  obtain ⟨o, ho, ho2⟩ : ∃ o, cutV (some ⟨g, 0, none⟩) j l0.length cap 4 = .slice (some ⟨g, o, none⟩) (l0.length - j) (cap - j) ∧ (l0.length = j ∨ o = j * 4) := by
    rcases Nat.lt_or_ge j cap with h | h
    · exact ⟨_, cutV_at0 (.inl h), .inr rfl⟩
    · exact ⟨0, by unfold cutV; rw [if_pos (by omega)], .inl (by omega)⟩
  refine VC.seq ?_
  refine VC.draw ⟨0, [], [], [], []⟩ (by kernel_rfl) rfl (by kernel_rfl) (n := 8) (listed := LB 8 0) ?_
  refine VA.va (i := 0) (listed' := LB 8 1) rfl (op_move rfl (ltn rfl)) rfl (by kernel_rfl) (by kernel_rfl) (by kernel_rfl) (by kernel_rfl) ⟨trivial, trivial, trivial⟩ (fun _ _ _ h => h) ?_
  refine VA.va (i := 1) (listed' := LB 8 3) rfl (op_move rfl (ltn rfl)) rfl (by kernel_rfl) (by kernel_rfl) (by kernel_rfl) (by kernel_rfl) ⟨trivial, trivial, trivial⟩ (fun _ _ _ h => h) ?_
  refine VA.va (i := 2) (listed' := LB 8 7) rfl (op_cutH' 0 i (v := .slice (some ⟨g, 0, none⟩) i cap) (by rw [cutV_at0 (.inr rfl)]; simp) Try.underlying22 TI26 rfl ⟨rfl, ⟨_, _, rfl, h0, Int.toNat_natCast i⟩, Nat.zero_le _, by omega⟩ (ltn rfl)) rfl (by kernel_rfl) (by kernel_rfl) (by kernel_rfl) (by kernel_rfl) ⟨trivial, trivial, trivial⟩ (fun _ _ _ h => h) ?_
  refine VA.va (i := 3) (listed' := LB 8 15) rfl (op_move rfl (ltn rfl)) rfl (by kernel_rfl) (by kernel_rfl) (by kernel_rfl) (by kernel_rfl) ⟨trivial, trivial, trivial⟩ (fun _ _ _ h => h) ?_
  refine VA.va (i := 4) (listed' := LB 8 31) rfl (op_move rfl (ltn rfl)) rfl (by kernel_rfl) (by kernel_rfl) (by kernel_rfl) (by kernel_rfl) ⟨trivial, trivial, trivial⟩ (fun _ _ _ h => h) ?_
  refine VA.va (i := 5) (listed' := LB 8 63) rfl (op_cutV' j l0.length ho Try.underlying22 TI26 rfl ⟨⟨_, _, rfl, by omega, Int.toNat_natCast _⟩, rfl, by omega, Nat.le_refl _⟩ hcap (ltn rfl)) rfl (by kernel_rfl) (by kernel_rfl) (by kernel_rfl) (by kernel_rfl) ⟨trivial, trivial, trivial⟩ (fun _ _ _ h => h) ?_
  refine VA.one1 (i := 6) (listed' := LB 8 127) (by kernel_rfl) rfl (o_append_in (cs := (cur.drop (j * 4)).take ((l0.length - j) * 4)) 0 Try.underlying22 EI26 rfl rfl rfl hd (by omega) (by rw [hd, hlen]; omega) (fun w hm q u hu => by
    rcases ho2 with h | h
    · rw [h, Nat.sub_self, Nat.zero_mul, List.take_zero] at hu
      cases hu
    · subst h
      exact src_box (s := ⟨_, _, _, _, _⟩) ((l0.length - j) * 4) 0 rfl rfl w hm q u hu) h1c rfl (ltn rfl)) rfl (by kernel_rfl) ⟨trivial, trivial, trivial⟩ ?_
  refine VA.va (i := 7) (listed' := LB 8 255) rfl (op_assign rfl (ltn rfl)) rfl (by kernel_rfl) (by kernel_rfl) (by kernel_rfl) (by kernel_rfl) ⟨trivial, trivial, trivial⟩ (fun _ _ _ h => h) ?_
  refine VA.done (by kernel_rfl) (VN.then ?_)
  have hcur1 : (upd cur (i * 4) ((cur.drop (j * 4)).take ((l0.length - j) * 4))).length = cap * 4 := by rw [upd_len, hlen]; rw [hd, hlen]; omega
  refine VC.seq (VC.region ?_)
  refine VL.va (op_move rfl (ltn rfl)) rfl ?_
  refine VL.va (op_move rfl (ltn rfl)) rfl ?_
  refine VL.va (op_lenV Try.underlying22 rfl (ltn rfl)) rfl ?_
  refine VL.va (op_move rfl (ltn rfl)) rfl ?_
  refine VL.va (op_cutH' (i + (l0.length - j)) l0.length (cutV_at0 (by omega)) Try.underlying22 TI26 rfl ⟨⟨_, _, rfl, by omega, Int.toNat_natCast _⟩, ⟨_, _, rfl, by omega, Int.toNat_natCast _⟩, by omega, by omega⟩ (ltn rfl)) rfl ?_
  refine VL.clear (sz := 4) 0 Try.underlying22 Z26 rfl (by decide) rfl rfl rfl (by rw [hcur1]; omega) rfl fun us hus => ?_
  refine VL.done (VN.then ?_)
  refine VC.seq (VC.region ?_)
  refine VL.va (op_move rfl (ltn rfl)) rfl ?_
  refine VL.va (op_assign rfl (ltn rfl)) rfl ?_
  refine VL.done (VN.then ?_)
  refine VC.ret ?_
  have hfll : (l0.take i ++ l0.drop j).length = i + (l0.length - j) := by simp only [List.length_append, List.length_take, List.length_drop]; omega
  have hfin : ((l0.take i ++ l0.drop j).map enc25).flatten = (cur.take (l0.length * 4)).take (i * 4) ++ (cur.take (l0.length * 4)).drop (j * 4) := by
    rw [htake, List.map_append, List.flatten_append, List.map_take, List.map_drop, flat_take i hfl, flat_drop j hfl]
  refine VR.closeBox 0 cap 4 ((l0.take i ++ l0.drop j).map enc25) rfl (by rw [lenm, hfll]; omega) hmx (by rw [upd_len, hcur1]; rw [hus, hcur1]; omega) ?_ (flat_map enc25_ok _) ?_
  · rw [lenm, hfll, hfin, Nat.add_mul, Nat.sub_mul]
    exact del_is (by rw [hlen]; omega) (by omega) (by omega) (by rw [← Nat.sub_mul])
  rw [lenm, hfll]
  exact VR.own (rs := [.tmp 6]) 0 [] rfl (.tmp rfl .nil) rfl rfl rfl (fun _ => rfl)
set_option maxHeartbeats 4000000 in
set_option maxRecDepth 100000 in
theorem waits_Drop.ok (k : Nat) (l0 : List S25) (a1 : Int) (v0 : Value) (r1 : List S25) (r2 : Int) (h : waits_Drop.f k l0 a1 = some (r1, r2)) :
    VCalls Try.prog 24 [v0, .int .i64 a1] [.row v0 4 (l0.map enc25)] (fun v G own => ∃ w0 : Value, v = .tuple #[w0, .int .i64 r2] ∧ G = [] ∧ own = [(w0, 26, 4, r1.map enc25)]) := by
  refine VCalls.intro Try.func24 rfl (len rfl) fun E hC hW hD hU => ?_
  unfold waits_Drop.f at h
  refine VC.seq ?_
  refine VC.region ?_
  refine VL.va (op_assign rfl (ltn rfl)) rfl ?_
  refine VL.va (op_assign rfl (ltn rfl)) rfl ?_
  refine VL.done ?_
  refine VN.then ?_
  refine VC.seq ?_
  refine VC.region ?_
  refine VL.va (op_move rfl (ltn rfl)) rfl ?_
  refine VL.va (op_move rfl (ltn rfl)) rfl ?_
  replace h := Option.bind_eq_some_iff.1 h
  obtain ⟨⟨t2983, t2984⟩, hA2985, h⟩ := h
  dsimp only at h
  refine VL.sC (o_call0 FO41 (waits_at.ok k l0 a1 v0 t2983 t2984 hA2985) rfl rfl (ltn rfl) (All_of (.cons (List.mem_of_getElem? (i := 0) rfl) .nil))) rfl ?_
  rintro _ _ _ ⟨rfl, rfl, rfl⟩
  refine VL.va (op_move rfl (ltn rfl)) rfl ?_
  refine VL.va (op_extract rfl rfl (ltn rfl)) rfl ?_
  refine VL.va (op_extract rfl rfl (ltn rfl)) rfl ?_
  refine VL.va (op_assign rfl (ltn rfl)) rfl ?_
  refine VL.va (op_assign rfl (ltn rfl)) rfl ?_
  refine VL.done ?_
  refine VN.then ?_
  refine VC.seq ?_
  refine VC.seq ?_
  refine VC.region ?_
  refine VL.va (op_move rfl (ltn rfl)) rfl ?_
  refine VL.letter ((t2984 != 0)) fun b2989 hb2989 => ?_
  refine VL.va (op_cmp rfl rfl (congrArg some hb2989) (ltn rfl)) rfl ?_
  refine VL.done ?_
  refine VN.then ?_
  by_cases c2990 : t2984 = 0
  · rw [if_pos c2990] at h
    obtain rfl : b2989 = false := hb2989.symm.trans (bne_eq_false_iff_eq.2 c2990)
    refine VC.cond_f rfl ?_
    refine VC.skip ?_
    refine VN.then ?_
    refine VC.seq ?_
    refine VC.region ?_
    refine VL.va (op_move rfl (ltn rfl)) rfl ?_
    replace h := Option.bind_eq_some_iff.1 h
    obtain ⟨r2991, hA2992, h⟩ := h
    refine VL.sC (o_call_b0 FO30 (slices_Clone_api_Line_api_Line.ok l0 v0 r2991 hA2992) rfl rfl (ltn rfl) (All_of (.cons (.inl (List.mem_of_getElem? (i := 0) rfl)) .nil)) (by rintro _ _ _ ⟨_, rfl, rfl, rfl⟩; rfl)) rfl ?_
    rintro v2994 _ _ ⟨_, rfl, rfl, rfl⟩
    refine VL.va (op_move rfl (ltn rfl)) rfl ?_
    refine VL.va (op_move rfl (ltn rfl)) rfl ?_
    refine VL.va (op_ari64 rfl rfl rfl (ltn rfl)) rfl ?_
    replace h := Option.bind_eq_some_iff.1 h
    obtain ⟨r2995, hA2996, h⟩ := h
    refine VL.sG (o_call_own0 (vals := [v2994, .int .i64 t2983, .int .i64 (wrap64 (t2983 + 1))]) 0 rfl FO43 (slices_Delete_api_Line_api_Line.ok r2991 t2983 (wrap64 (t2983 + 1)) v2994 r2995 hA2996) rfl rfl (ltn rfl) (by simp)) rfl ?_
    intro v2997
    refine VL.va (op_assign rfl (ltn rfl)) rfl ?_
    refine VL.va (op_assign rfl (ltn rfl)) rfl ?_
    refine VL.done ?_
    refine VN.then ?_
    refine VC.ret ?_
    simp only [Option.some.injEq, Prod.mk.injEq] at h
    obtain ⟨rfl, rfl⟩ := h
    exact VR.fn (rs := [.tmp 4, .tmp 5]) [] [(v2997, 26, 4, r2995.map enc25)] [0] rfl (.tmp rfl (.tmp rfl .nil)) ⟨v2997, rfl, rfl, rfl⟩ trivial rfl (by decide)
  · rw [if_neg c2990] at h
    obtain rfl : b2989 = true := hb2989.symm.trans (bne_iff_ne.2 c2990)
    refine VC.cond_t rfl ?_
    refine VC.seq ?_
    refine VC.region ?_
    refine VL.va (op_move rfl (ltn rfl)) rfl ?_
    refine VL.va (op_assign rfl (ltn rfl)) rfl ?_
    refine VL.va (op_assign rfl (ltn rfl)) rfl ?_
    refine VL.done ?_
    refine VN.then ?_
    refine VC.ret ?_
    refine VR.then ?_
    simp only [Option.some.injEq, Prod.mk.injEq] at h
    obtain ⟨rfl, rfl⟩ := h
    refine VR.nilRow' 26 4 ?_
    exact VR.fn (rs := [.tmp 4, .tmp 5]) [] [((.slice none 0 0), 26, 4, ([] : List S25).map enc25)] [0] rfl (.tmp rfl (.tmp rfl .nil)) ⟨(.slice none 0 0), rfl, rfl, rfl⟩ trivial rfl (by decide)

end Go.Proofs.Ytdofmkbffffbpaa.PWaitsBuilt
