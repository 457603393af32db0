/- Written by a program of this repo: what the program's functions do, each as a Lean function, shown of the loaded code; or a statement's row over that; no condition of its own. -/
import Derived.Test.YtmcfgahjchkgaaaPTimerSetsx1
namespace Go.Proofs.Ytmcfgahjchkgaaa.PTimerSets
open Go Go.RowKit Go.Proofs.YtmcfgahjchkgaaaV
set_option linter.unusedVariables false
set_option linter.unusedSimpArgs false

set_option maxHeartbeats 4000000 in
set_option maxRecDepth 100000 in
theorem timer_Right.ok (k : Nat) (l0 : List S23) (v0 : Value) (r1 : Bool) (h : timer_Right.f k l0 = some r1) :
    VCalls Try.prog 11 [v0] [.row v0 3 (l0.map enc23)] (fun v G own => v = .bool r1 ∧ G = [] ∧ own = []) := by
  refine VCalls.intro Try.func11 rfl (len rfl) fun E hC => ?_
  unfold timer_Right.f at h
  refine VC.seq ?_
  refine VC.region ?_
  refine VL.va (op_assign rfl (ltn rfl)) rfl ?_
  refine VL.done ?_
  refine VN.then ?_
  refine VC.seq ?_
  refine VC.seq ?_
  refine VC.region ?_
  refine VL.va (op_move rfl (ltn rfl)) rfl ?_
  refine VL.va (op_len (m := l0.length) 0 lenm Try.underlying22 rfl rfl (ltn rfl)) rfl ?_
  refine VL.va (op_move rfl (ltn rfl)) rfl ?_
  refine VL.done ?_
  refine VN.then ?_
  refine VC.block ?_
  refine VC.loop1 (fun (i320 : Int) => ⟨34, [(0, v0), (2, .bool false), (5, v0), (6, .int .i64 (l0.length : Int)), (7, .int .i64 i320)], [.row v0 3 (l0.map enc23)], [], []⟩) (fun (ml1 : Nat) (i320 : Int) => timer_Right.l1 k l0 ml1 i320 = some r1) k 0 [] [] h ⟨rfl, ⟨rfl, rfl, rfl, rfl, rfl, trivial⟩, ⟨⟨0, rfl⟩, trivial⟩, rfl, by decide, rfl, by decide⟩ (by intros; simp [timer_Right.l1]) ?_
  clear h
  intro ml1 ihl1 i320 h
  simp only [timer_Right.l1] at h
  refine VC.seq ?_
  refine VC.region ?_
  refine VL.letter (decide (i320 < (l0.length : Int))) fun b362 hb362 => ?_
  refine VL.va (op_cmp rfl rfl (congrArg some hb362) (ltn rfl)) rfl ?_
  refine VL.done ?_
  refine VN.then ?_
  refine VC.seq ?_
  by_cases c619 : i320 < (l0.length : Int)
  · rw [if_pos c619] at h
    obtain rfl : b362 = true := hb362.symm.trans (decide_eq_true c619)
    refine VC.cond_t rfl ?_
    refine VC.skip ?_
    refine VN.then ?_
    refine VC.seq ?_
    refine VC.block ?_
    refine VC.seq ?_
    refine VC.region ?_
    refine VL.va (op_move rfl (ltn rfl)) rfl ?_
    by_cases c639 : 0 ≤ i320
    · rw [if_pos c639] at h
      replace h := Option.bind_eq_some_iff.1 h
      obtain ⟨x640, hx640, h⟩ := h
      refine VL.open (m := l0.length) 0 lenm rfl (pos_get hx640) ?_
      rintro ad641 n642 rfl
      refine VL.va (op_indexAddr Try.underlying22 TI24 rfl rfl c639 (lt_get c639 hx640) rfl (ltn rfl)) rfl ?_
      refine VL.va (op_load_row (o := 0) 0 i320.toNat 3 rfl rfl (get_map hx640) TI24 rfl (fun h => absurd h (by decide)) (ltn rfl)) rfl ?_
      refine VL.sG (o_alloc (us := [.int .i64 0, .int .i64 0, .int .i64 0]) Z24 rfl (ltn rfl)) rfl ?_
      intro g643
      refine VL.va (op_assign rfl (ltn rfl)) rfl ?_
      refine VL.step1 (o_store 0 3 rfl rfl rfl TI24 (.agg (.c rfl (.c rfl (.c rfl .nil)))) rfl (len rfl)) rfl ?_
      refine VL.done ?_
      refine VN.then ?_
      replace h := Option.bind_eq_some_iff.1 h
      obtain ⟨t644, hA645, h⟩ := h
      by_cases c646 : t644 = true
      · rw [if_pos c646] at h
        obtain rfl := c646
        by_cases c647 : i320 ≤ (l0.length : Int)
        · rw [if_pos c647] at h
          replace h := Option.bind_eq_some_iff.1 h
          obtain ⟨⟨t650, t651⟩, hA652, h⟩ := h
          dsimp only at h
          replace h := Option.bind_eq_some_iff.1 h
          obtain ⟨t655, hA656, h⟩ := h
          refine VC.join3 (fun (v649 : Value) (g653 : Nat) (g654 : Nat) => ⟨34, [(0, (.slice (some ad641) l0.length n642)), (2, .bool false), (3, .int .i64 i320), (4, .pointer (some ⟨g643, 0, none⟩)), (5, (.slice (some ad641) l0.length n642)), (6, .int .i64 (l0.length : Int)), (7, .int .i64 i320), (8, .bool true), (9, .int .i64 i320), (11, .agg #[.int .i64 x640.f0, .int .i64 x640.f1, .int .i64 x640.f2]), (12, .agg #[.int .i64 x640.f0, .int .i64 x640.f1, .int .i64 x640.f2]), (13, .bool true), (14, .bool false), (15, .bool false), (16, (.slice (some ad641) l0.length n642)), (17, .int .i64 i320), (18, v649), (19, .pointer (some ⟨g643, 1, none⟩)), (20, .int .i64 x640.f1), (21, .pointer (some ⟨g643, 2, none⟩)), (22, .int .i64 x640.f2), (23, (.func (.func 29) #[] #[.pointer (some ⟨g653, 0, none⟩), .pointer (some ⟨g654, 0, none⟩)])), (24, .bool t655), (25, .bool t655)], [.at_ ⟨g653, 0, none⟩ [.int .i64 t650], .at_ ⟨g654, 0, none⟩ [.int .i64 t651], .row v649 3 (((l0.take i320.toNat).drop 0).map enc23), .row (.slice (some ad641) l0.length n642) 3 (l0.map enc23)], [(g643, 24, [.int .i64 x640.f0, .int .i64 x640.f1, .int .i64 x640.f2])], []⟩) (fun (v649 : Value) (g653 : Nat) (g654 : Nat) => True) ?_ ?_
          · refine VC.draw ⟨0, [], [.row (.slice (some ad641) l0.length n642) 3 (l0.map enc23)], [(g643, 24, [.int .i64 x640.f0, .int .i64 x640.f1, .int .i64 x640.f2])], []⟩ (by kernel_rfl) rfl (by kernel_rfl) (n := 14) (listed := LB 14 0) ?_
            refine VA.va (i := 0) (listed' := LB 14 1) rfl (op_load 0 3 rfl rfl TI24 rfl (fun h => absurd h (by decide)) (ltn rfl)) rfl (by kernel_rfl) (by kernel_rfl) (by kernel_rfl) (by kernel_rfl) ⟨⟨⟨0, rfl⟩, trivial⟩, ⟨⟨0, rfl⟩, trivial⟩, trivial⟩ (fun _ _ _ h => h) ?_
            refine VA.oneC (i := 1) (listed' := LB 14 3) (by kernel_rfl) rfl (o_call0 FO19 (timer_may.ok x640.f0 x640.f1 x640.f2 true hA645) rfl rfl (ltn rfl) (All_of .nil)) rfl (by kernel_rfl) ?_
            rintro _ _ _ ⟨rfl, rfl, rfl⟩
            refine ⟨⟨⟨⟨0, rfl⟩, trivial⟩, ⟨⟨0, rfl⟩, trivial⟩, trivial⟩, ?_⟩
            refine VA.va (i := 2) (listed' := LB 14 7) rfl (op_not rfl rfl (ltn rfl)) rfl (by kernel_rfl) (by kernel_rfl) (by kernel_rfl) (by kernel_rfl) ⟨⟨⟨0, rfl⟩, trivial⟩, ⟨⟨0, rfl⟩, trivial⟩, trivial⟩ (fun _ _ _ h => h) ?_
            refine VA.va (i := 3) (listed' := LB 14 15) rfl (op_move rfl (ltn rfl)) rfl (by kernel_rfl) (by kernel_rfl) (by kernel_rfl) (by kernel_rfl) ⟨⟨⟨0, rfl⟩, trivial⟩, ⟨⟨0, rfl⟩, trivial⟩, trivial⟩ (fun _ _ _ h => h) ?_
            refine VA.va (i := 4) (listed' := LB 14 31) rfl (op_move rfl (ltn rfl)) rfl (by kernel_rfl) (by kernel_rfl) (by kernel_rfl) (by kernel_rfl) ⟨⟨⟨0, rfl⟩, trivial⟩, ⟨⟨0, rfl⟩, trivial⟩, trivial⟩ (fun _ _ _ h => h) ?_
            refine VA.va (i := 5) (listed' := LB 14 63) rfl (op_move rfl (ltn rfl)) rfl (by kernel_rfl) (by kernel_rfl) (by kernel_rfl) (by kernel_rfl) ⟨⟨⟨0, rfl⟩, trivial⟩, ⟨⟨0, rfl⟩, trivial⟩, trivial⟩ (fun _ _ _ h => h) ?_
            refine VA.cut (i := 6) (listed' := LB 14 127) rfl (m := l0.length) 0 0 i320.toNat lenm cutm Try.underlying22 TI24 rfl rfl ⟨rfl, ⟨_, _, rfl, c639, rfl⟩, by omega, by omega⟩ (ltn rfl) rfl (by kernel_rfl) (by kernel_rfl) (by kernel_rfl) (by kernel_rfl) ⟨⟨⟨0, rfl⟩, trivial⟩, ⟨⟨0, rfl⟩, trivial⟩, trivial⟩ (fun _ _ _ _ h => h) ?_
            intro v649
            refine VA.va (i := 7) (listed' := LB 14 255) rfl (op_fieldAddr FI24_1 rfl (add_at _ _ _) (ltn rfl)) rfl (by kernel_rfl) (by kernel_rfl) (by kernel_rfl) (by kernel_rfl) ⟨⟨⟨1, rfl⟩, trivial⟩, ⟨⟨0, rfl⟩, trivial⟩, trivial⟩ (fun _ _ _ h => h) ?_
            refine VA.va (i := 8) (listed' := LB 14 511) rfl (op_load 0 1 rfl rfl TI3 rfl (by decide) (ltn rfl)) rfl (by kernel_rfl) (by kernel_rfl) (by kernel_rfl) (by kernel_rfl) ⟨⟨⟨1, rfl⟩, trivial⟩, ⟨⟨0, rfl⟩, trivial⟩, trivial⟩ (fun _ _ _ h => h) ?_
            refine VA.va (i := 9) (listed' := LB 14 1023) rfl (op_fieldAddr FI24_2 rfl (add_at _ _ _) (ltn rfl)) rfl (by kernel_rfl) (by kernel_rfl) (by kernel_rfl) (by kernel_rfl) ⟨⟨⟨1, rfl⟩, trivial⟩, ⟨⟨0, rfl⟩, trivial⟩, trivial⟩ (fun _ _ _ h => h) ?_
            refine VA.va (i := 10) (listed' := LB 14 2047) rfl (op_load 0 1 rfl rfl TI3 rfl (by decide) (ltn rfl)) rfl (by kernel_rfl) (by kernel_rfl) (by kernel_rfl) (by kernel_rfl) ⟨⟨⟨1, rfl⟩, trivial⟩, ⟨⟨0, rfl⟩, trivial⟩, trivial⟩ (fun _ _ _ h => h) ?_
            refine VA.oneC (i := 11) (listed' := LB 14 4095) (by kernel_rfl) rfl (o_call0 FO21 (timer_of.ok x640.f1 x640.f2 t650 t651 hA652) rfl rfl (ltn rfl) (All_of .nil)) rfl (by kernel_rfl) ?_
            rintro _ _ _ ⟨g653, g654, rfl, rfl, rfl⟩
            refine ⟨⟨⟨⟨3, rfl⟩, trivial⟩, ⟨⟨0, rfl⟩, trivial⟩, trivial⟩, ?_⟩
            refine VA.oneC (i := 12) (listed' := LB 14 8191) (by kernel_rfl) rfl (o_call0 FO25 (slices_ContainsFunc_api_Timer_api_Timer.ok k ((l0.take i320.toNat).drop 0) t650 t651 v649 g653 g654 t655 hA656) rfl rfl (ltn rfl) (All_of (.cons (List.mem_of_getElem? (i := 2) rfl) (.cons (List.mem_of_getElem? (i := 0) rfl) (.cons (List.mem_of_getElem? (i := 1) rfl) .nil))))) rfl (by kernel_rfl) ?_
            rintro _ _ _ ⟨rfl, rfl, rfl⟩
            refine ⟨⟨⟨⟨3, rfl⟩, trivial⟩, ⟨⟨0, rfl⟩, trivial⟩, trivial⟩, ?_⟩
            refine VA.va (i := 13) (listed' := LB 14 16383) rfl (op_pick rfl rfl (ltn rfl)) rfl (by kernel_rfl) (by kernel_rfl) (by kernel_rfl) (by kernel_rfl) ⟨⟨⟨3, rfl⟩, trivial⟩, ⟨⟨0, rfl⟩, trivial⟩, trivial⟩ (fun _ _ _ h => h) ?_
            refine VA.done (by kernel_rfl) ?_
            exact VN.meet3 v649 g653 g654 [0] [] trivial ⟨rfl, ⟨rfl, rfl, rfl, rfl, rfl, rfl, rfl, rfl, rfl, rfl, rfl, rfl, rfl, rfl, rfl, rfl, rfl, rfl, rfl, rfl, rfl, rfl, rfl, rfl, trivial⟩, ⟨⟨0, rfl⟩, ⟨1, rfl⟩, ⟨2, rfl⟩, ⟨3, rfl⟩, trivial⟩, rfl, by decide, rfl, by decide⟩
          intro v649 g653 g654 _
          by_cases c657 : t655 = true
          · rw [if_pos c657] at h
            obtain rfl := c657
            refine VC.cond_t rfl ?_
            refine VC.seq ?_
            refine VC.region ?_
            refine VL.va (op_assign rfl (ltn rfl)) rfl ?_
            refine VL.done ?_
            refine VN.then ?_
            refine VC.ret ?_
            refine VR.block ?_
            refine VR.then ?_
            refine VR.then ?_
            refine VR.block ?_
            refine VR.then ?_
            obtain rfl := Option.some.inj h
            exact VR.fn (rs := [.tmp 2]) [] [] [] rfl (.tmp rfl .nil) ⟨rfl, rfl, rfl⟩ trivial rfl (by decide)
          · rw [if_neg c657] at h
            obtain rfl := Bool.eq_false_iff.2 c657
            refine VC.cond_f rfl ?_
            refine VC.skip ?_
            refine VN.block ?_
            refine VN.then ?_
            refine VC.region ?_
            refine VL.va (op_ari64 rfl rfl rfl (ltn rfl)) rfl ?_
            refine VL.va (op_move rfl (ltn rfl)) rfl ?_
            refine VL.done ?_
            refine VN.again [] [] (ihl1 (wrap64 (i320 + 1)) h) ⟨rfl, ⟨rfl, rfl, rfl, rfl, rfl, trivial⟩, ⟨⟨3, rfl⟩, trivial⟩, rfl, by decide, rfl, by decide⟩
        · rw [if_neg c647] at h; cases h
      · rw [if_neg c646] at h
        obtain rfl := Bool.eq_false_iff.2 c646
        refine VC.join0 (⟨34, [(0, (.slice (some ad641) l0.length n642)), (2, .bool false), (3, .int .i64 i320), (4, .pointer (some ⟨g643, 0, none⟩)), (5, (.slice (some ad641) l0.length n642)), (6, .int .i64 (l0.length : Int)), (7, .int .i64 i320), (8, .bool true), (9, .int .i64 i320), (11, .agg #[.int .i64 x640.f0, .int .i64 x640.f1, .int .i64 x640.f2]), (12, .agg #[.int .i64 x640.f0, .int .i64 x640.f1, .int .i64 x640.f2]), (13, .bool false), (14, .bool true), (15, .bool true), (16, undef), (17, undef), (18, undef), (19, undef), (20, undef), (21, undef), (22, undef), (23, undef), (24, undef), (25, .bool true)], [.row (.slice (some ad641) l0.length n642) 3 (l0.map enc23)], [(g643, 24, [.int .i64 x640.f0, .int .i64 x640.f1, .int .i64 x640.f2])], []⟩) (True) ?_ ?_
        · refine VC.draw ⟨0, [], [], [(g643, 24, [.int .i64 x640.f0, .int .i64 x640.f1, .int .i64 x640.f2])], []⟩ (by kernel_rfl) rfl (by kernel_rfl) (n := 14) (listed := LB 14 0) ?_
          refine VA.va (i := 0) (listed' := LB 14 1) rfl (op_load 0 3 rfl rfl TI24 rfl (fun h => absurd h (by decide)) (ltn rfl)) rfl (by kernel_rfl) (by kernel_rfl) (by kernel_rfl) (by kernel_rfl) ⟨trivial, ⟨⟨0, rfl⟩, trivial⟩, trivial⟩ (fun _ _ _ h => h) ?_
          refine VA.oneC (i := 1) (listed' := LB 14 3) (by kernel_rfl) rfl (o_call0 FO19 (timer_may.ok x640.f0 x640.f1 x640.f2 false hA645) rfl rfl (ltn rfl) (All_of .nil)) rfl (by kernel_rfl) ?_
          rintro _ _ _ ⟨rfl, rfl, rfl⟩
          refine ⟨⟨trivial, ⟨⟨0, rfl⟩, trivial⟩, trivial⟩, ?_⟩
          refine VA.va (i := 2) (listed' := LB 14 7) rfl (op_not rfl rfl (ltn rfl)) rfl (by kernel_rfl) (by kernel_rfl) (by kernel_rfl) (by kernel_rfl) ⟨trivial, ⟨⟨0, rfl⟩, trivial⟩, trivial⟩ (fun _ _ _ h => h) ?_
          refine VA.va (i := 3) (listed' := LB 14 15) rfl (op_move rfl (ltn rfl)) rfl (by kernel_rfl) (by kernel_rfl) (by kernel_rfl) (by kernel_rfl) ⟨trivial, ⟨⟨0, rfl⟩, trivial⟩, trivial⟩ (fun _ _ _ h => h) ?_
          refine VA.un (i := 4) (listed' := LB 14 31) rfl rfl rfl (ltn rfl) (by kernel_rfl) (by kernel_rfl) (by kernel_rfl) (by kernel_rfl) ⟨trivial, ⟨⟨0, rfl⟩, trivial⟩, trivial⟩ (fun _ _ _ h => h) ?_
          refine VA.un (i := 5) (listed' := LB 14 63) rfl rfl rfl (ltn rfl) (by kernel_rfl) (by kernel_rfl) (by kernel_rfl) (by kernel_rfl) ⟨trivial, ⟨⟨0, rfl⟩, trivial⟩, trivial⟩ (fun _ _ _ h => h) ?_
          refine VA.un (i := 6) (listed' := LB 14 127) rfl rfl rfl (ltn rfl) (by kernel_rfl) (by kernel_rfl) (by kernel_rfl) (by kernel_rfl) ⟨trivial, ⟨⟨0, rfl⟩, trivial⟩, trivial⟩ (fun _ _ _ h => h) ?_
          refine VA.un (i := 7) (listed' := LB 14 255) rfl rfl rfl (ltn rfl) (by kernel_rfl) (by kernel_rfl) (by kernel_rfl) (by kernel_rfl) ⟨trivial, ⟨⟨0, rfl⟩, trivial⟩, trivial⟩ (fun _ _ _ h => h) ?_
          refine VA.un (i := 8) (listed' := LB 14 511) rfl rfl rfl (ltn rfl) (by kernel_rfl) (by kernel_rfl) (by kernel_rfl) (by kernel_rfl) ⟨trivial, ⟨⟨0, rfl⟩, trivial⟩, trivial⟩ (fun _ _ _ h => h) ?_
          refine VA.un (i := 9) (listed' := LB 14 1023) rfl rfl rfl (ltn rfl) (by kernel_rfl) (by kernel_rfl) (by kernel_rfl) (by kernel_rfl) ⟨trivial, ⟨⟨0, rfl⟩, trivial⟩, trivial⟩ (fun _ _ _ h => h) ?_
          refine VA.un (i := 10) (listed' := LB 14 2047) rfl rfl rfl (ltn rfl) (by kernel_rfl) (by kernel_rfl) (by kernel_rfl) (by kernel_rfl) ⟨trivial, ⟨⟨0, rfl⟩, trivial⟩, trivial⟩ (fun _ _ _ h => h) ?_
          refine VA.un (i := 11) (listed' := LB 14 4095) rfl rfl rfl (ltn rfl) (by kernel_rfl) (by kernel_rfl) (by kernel_rfl) (by kernel_rfl) ⟨trivial, ⟨⟨0, rfl⟩, trivial⟩, trivial⟩ (fun _ _ _ h => h) ?_
          refine VA.un (i := 12) (listed' := LB 14 8191) rfl rfl rfl (ltn rfl) (by kernel_rfl) (by kernel_rfl) (by kernel_rfl) (by kernel_rfl) ⟨trivial, ⟨⟨0, rfl⟩, trivial⟩, trivial⟩ (fun _ _ _ h => h) ?_
          refine VA.va (i := 13) (listed' := LB 14 16383) rfl (op_pick rfl rfl (ltn rfl)) rfl (by kernel_rfl) (by kernel_rfl) (by kernel_rfl) (by kernel_rfl) ⟨trivial, ⟨⟨0, rfl⟩, trivial⟩, trivial⟩ (fun _ _ _ h => h) ?_
          refine VA.done (by kernel_rfl) ?_
          exact VN.meet0  [0] [] trivial ⟨rfl, ⟨rfl, rfl, rfl, rfl, rfl, rfl, rfl, rfl, rfl, rfl, rfl, rfl, rfl, rfl, rfl, rfl, rfl, rfl, rfl, rfl, rfl, rfl, rfl, rfl, trivial⟩, ⟨⟨0, rfl⟩, trivial⟩, rfl, by decide, rfl, by decide⟩
        intro _
        refine VC.cond_t rfl ?_
        refine VC.seq ?_
        refine VC.region ?_
        refine VL.va (op_assign rfl (ltn rfl)) rfl ?_
        refine VL.done ?_
        refine VN.then ?_
        refine VC.ret ?_
        refine VR.block ?_
        refine VR.then ?_
        refine VR.then ?_
        refine VR.block ?_
        refine VR.then ?_
        obtain rfl := Option.some.inj h
        exact VR.fn (rs := [.tmp 2]) [] [] [] rfl (.tmp rfl .nil) ⟨rfl, rfl, rfl⟩ trivial rfl (by decide)
    · rw [if_neg c639] at h; cases h
  · rw [if_neg c619] at h
    obtain rfl : b362 = false := hb362.symm.trans (decide_eq_false c619)
    refine VC.cond_f rfl ?_
    refine VC.exit ?_
    refine VX.then ?_
    refine VX.then ?_
    refine VX.hit ?_
    refine VN.then ?_
    refine VC.seq ?_
    refine VC.region ?_
    refine VL.va (op_move rfl (ltn rfl)) rfl ?_
    refine VL.va (op_len (m := l0.length) 0 lenm Try.underlying22 rfl rfl (ltn rfl)) rfl ?_
    refine VL.letter (decide ((l0.length : Int) ≤ 96)) fun b662 hb662 => ?_
    refine VL.va (op_cmp rfl rfl (congrArg some hb662) (ltn rfl)) rfl ?_
    refine VL.va (op_move rfl (ltn rfl)) rfl ?_
    by_cases c663 : (l0.length : Int) ≤ 96
    · rw [if_pos c663] at h
      obtain rfl : b662 = true := hb662.symm.trans (decide_eq_true c663)
      refine VL.va (op_move rfl (ltn rfl)) rfl ?_
      replace h := Option.bind_eq_some_iff.1 h
      obtain ⟨t664, hA665, h⟩ := h
      refine VL.sC (o_call0 FO26 (slices_IsSortedFunc_api_Timer_api_Timer.ok k l0 v0 t664 hA665) rfl rfl (ltn rfl) (All_of (.cons (List.mem_of_getElem? (i := 0) rfl) .nil))) rfl ?_
      rintro _ _ _ ⟨rfl, rfl, rfl⟩
      refine VL.va (op_pick rfl rfl (ltn rfl)) rfl ?_
      refine VL.va (op_assign rfl (ltn rfl)) rfl ?_
      refine VL.done ?_
      refine VN.then ?_
      refine VC.ret ?_
      obtain rfl := Option.some.inj h
      exact VR.fn (rs := [.tmp 2]) [] [] [] rfl (.tmp rfl .nil) ⟨rfl, rfl, rfl⟩ trivial rfl (by decide)
    · rw [if_neg c663] at h
      obtain rfl : b662 = false := hb662.symm.trans (decide_eq_false c663)
      refine VL.un rfl rfl (ltn rfl) ?_
      refine VL.un rfl rfl (ltn rfl) ?_
      refine VL.va (op_pick rfl rfl (ltn rfl)) rfl ?_
      refine VL.va (op_assign rfl (ltn rfl)) rfl ?_
      refine VL.done ?_
      refine VN.then ?_
      refine VC.ret ?_
      obtain rfl := Option.some.inj h
      exact VR.fn (rs := [.tmp 2]) [] [] [] rfl (.tmp rfl .nil) ⟨rfl, rfl, rfl⟩ trivial rfl (by decide)
set_option maxHeartbeats 4000000 in
set_option maxRecDepth 100000 in
theorem timer_parted_Timer.ok (k : Nat) (l0 : List S23) (a1_0_0 : Int) (a1_1_0 : Int) (v0 : Value) (p1_0 : Nat) (p1_1 : Nat) (r1 : List S23) (r2 : List S23) (h : timer_parted_Timer.f k l0 a1_0_0 a1_1_0 = some (r1, r2)) :
    VCalls Try.prog 20 [v0, (.func (.func 29) #[] #[.pointer (some ⟨p1_0, 0, none⟩), .pointer (some ⟨p1_1, 0, none⟩)])] [.row v0 3 (l0.map enc23), .at_ ⟨p1_0, 0, none⟩ [.int .i64 a1_0_0], .at_ ⟨p1_1, 0, none⟩ [.int .i64 a1_1_0]] (fun v G own => ∃ w0 w1 : Value, v = .tuple #[w0, w1] ∧ G = [] ∧ own = [(w0, 24, 3, r1.map enc23), (w1, 24, 3, r2.map enc23)]) := by
  refine VCalls.intro Try.func20 rfl (len rfl) fun E hC => ?_
  unfold timer_parted_Timer.f at h
  refine VC.seq ?_
  refine VC.region ?_
  refine VL.va (op_assign rfl (ltn rfl)) rfl ?_
  refine VL.va (op_assign rfl (ltn rfl)) rfl ?_
  refine VL.done ?_
  refine VN.then ?_
  refine VC.seq ?_
  refine VC.seq ?_
  refine VC.region ?_
  refine VL.va (op_move rfl (ltn rfl)) rfl ?_
  refine VL.va (op_len (m := l0.length) 0 lenm Try.underlying22 rfl rfl (ltn rfl)) rfl ?_
  refine VL.va (op_move rfl (ltn rfl)) rfl ?_
  refine VL.done ?_
  refine VN.then ?_
  refine VC.block ?_
  refine VC.nilRow' 24 3 ?_
  refine VC.nilRow' 24 3 ?_
  refine VC.loop5 (fun (v868 : Value) (l869 : List S23) (v872 : Value) (l873 : List S23) (i875 : Int) => ⟨28, [(1, (.func (.func 29) #[] #[.pointer (some ⟨p1_0, 0, none⟩), .pointer (some ⟨p1_1, 0, none⟩)])), (4, v868), (5, v872), (8, v0), (9, .int .i64 (l0.length : Int)), (10, .int .i64 i875)], [.at_ ⟨p1_0, 0, none⟩ [.int .i64 a1_0_0], .at_ ⟨p1_1, 0, none⟩ [.int .i64 a1_1_0], .row v0 3 (l0.map enc23)], [], [(v868, 24, 3, l869.map enc23), (v872, 24, 3, l873.map enc23)]⟩) (fun (ml1 : Nat) (v868 : Value) (l869 : List S23) (v872 : Value) (l873 : List S23) (i875 : Int) => timer_parted_Timer.l1 k a1_0_0 a1_1_0 l0 ml1 l869 l873 i875 = some (r1, r2)) k (.slice none 0 0) ([] : List S23) (.slice none 0 0) ([] : List S23) 0 [] [1, 0] h ⟨rfl, ⟨rfl, rfl, rfl, rfl, rfl, rfl, trivial⟩, ⟨⟨1, rfl⟩, ⟨2, rfl⟩, ⟨0, rfl⟩, trivial⟩, rfl, by decide, rfl, by decide⟩ (by intros; simp [timer_parted_Timer.l1]) ?_
  clear h
  intro ml1 ihl1 v868 l869 v872 l873 i875 h
  simp only [timer_parted_Timer.l1] at h
  refine VC.seq ?_
  refine VC.region ?_
  refine VL.letter (decide (i875 < (l0.length : Int))) fun b915 hb915 => ?_
  refine VL.va (op_cmp rfl rfl (congrArg some hb915) (ltn rfl)) rfl ?_
  refine VL.done ?_
  refine VN.then ?_
  refine VC.seq ?_
  by_cases c917 : i875 < (l0.length : Int)
  · rw [if_pos c917] at h
    obtain rfl : b915 = true := hb915.symm.trans (decide_eq_true c917)
    refine VC.cond_t rfl ?_
    refine VC.skip ?_
    refine VN.then ?_
    refine VC.seq ?_
    refine VC.block ?_
    refine VC.seq ?_
    refine VC.region ?_
    by_cases c936 : 0 ≤ i875
    · rw [if_pos c936] at h
      replace h := Option.bind_eq_some_iff.1 h
      obtain ⟨x937, hx937, h⟩ := h
      refine VL.open (m := l0.length) 2 lenm rfl (pos_get hx937) ?_
      rintro ad938 n939 rfl
      refine VL.va (op_indexAddr Try.underlying22 TI24 rfl rfl c936 (lt_get c936 hx937) rfl (ltn rfl)) rfl ?_
      refine VL.va (op_load_row (o := 0) 2 i875.toNat 3 rfl rfl (get_map hx937) TI24 rfl (fun h => absurd h (by decide)) (ltn rfl)) rfl ?_
      refine VL.sG (o_alloc (us := [.int .i64 0, .int .i64 0, .int .i64 0]) Z24 rfl (ltn rfl)) rfl ?_
      intro g940
      refine VL.step1 (o_store 0 3 rfl rfl rfl TI24 (.agg (.c rfl (.c rfl (.c rfl .nil)))) rfl (len rfl)) rfl ?_
      refine VL.done ?_
      refine VN.then ?_
      refine VC.seq ?_
      refine VC.region ?_
      refine VL.va (op_move rfl (ltn rfl)) rfl ?_
      refine VL.va (op_load 0 3 rfl rfl TI24 rfl (fun h => absurd h (by decide)) (ltn rfl)) rfl ?_
      replace h := Option.bind_eq_some_iff.1 h
      obtain ⟨t941, hA942, h⟩ := h
      refine VL.sC (o_call (vals := [.agg #[.int .i64 x937.f0, .int .i64 x937.f1, .int .i64 x937.f2]]) (caps := [.pointer (some ⟨p1_0, 0, none⟩), .pointer (some ⟨p1_1, 0, none⟩)]) FO29 (timer_of_1.ok x937.f0 x937.f1 x937.f2 a1_0_0 a1_1_0 p1_0 p1_1 t941 hA942) rfl rfl (ltn rfl) (All_of (.cons (List.mem_of_getElem? (i := 0) rfl) (.cons (List.mem_of_getElem? (i := 1) rfl) .nil)))) rfl ?_
      rintro _ _ _ ⟨rfl, rfl, rfl⟩
      refine VL.done ?_
      refine VN.then ?_
      by_cases c943 : t941 = true
      · rw [if_pos c943] at h
        obtain rfl := c943
        refine VC.cond_t rfl ?_
        refine VC.region ?_
        refine VL.va (op_move rfl (ltn rfl)) rfl ?_
        refine VL.va (op_load 0 3 rfl rfl TI24 rfl (fun h => absurd h (by decide)) (ltn rfl)) rfl ?_
        refine VL.sG (o_buildSlice (vals := [(0, .agg #[.int .i64 x937.f0, .int .i64 x937.f1, .int .i64 x937.f2])]) (cells := #[.int .i64 x937.f0, .int .i64 x937.f1, .int .i64 x937.f2]) (es := List.map enc23 ([x937] : List S23)) Try.underlying22 TI24 Z24 rfl (by decide) (by decide) (by kernel_rfl) (by kernel_rfl) rfl (flat_map enc23_ok _) (ltn rfl)) rfl ?_
        intro v945
        by_cases c946 : (l869.length + ([x937] : List S23).length) * 24 ≤ 140737488355328
        · rw [if_pos c946] at h
          refine VL.sG (o_append 1 appm Try.underlying22 EI24 rfl rfl rfl (.inr ⟨0, _, rfl⟩) (bndm c946) (ltn rfl)) rfl ?_
          intro v947
          refine VL.va (op_assign rfl (ltn rfl)) rfl ?_
          refine VL.done ?_
          refine VN.block ?_
          refine VN.then ?_
          refine VC.region ?_
          refine VL.va (op_ari64 rfl rfl rfl (ltn rfl)) rfl ?_
          refine VL.va (op_move rfl (ltn rfl)) rfl ?_
          refine VL.done ?_
          refine VN.again [] [1, 2] (ihl1 v947 (l869 ++ ([x937] : List S23)) v872 l873 (wrap64 (i875 + 1)) h) ⟨rfl, ⟨rfl, rfl, rfl, rfl, rfl, rfl, trivial⟩, ⟨⟨0, rfl⟩, ⟨1, rfl⟩, ⟨2, rfl⟩, trivial⟩, rfl, by decide, rfl, by decide⟩
        · rw [if_neg c946] at h; cases h
      · rw [if_neg c943] at h
        obtain rfl := Bool.eq_false_iff.2 c943
        refine VC.cond_f rfl ?_
        refine VC.region ?_
        refine VL.va (op_move rfl (ltn rfl)) rfl ?_
        refine VL.va (op_load 0 3 rfl rfl TI24 rfl (fun h => absurd h (by decide)) (ltn rfl)) rfl ?_
        refine VL.sG (o_buildSlice (vals := [(0, .agg #[.int .i64 x937.f0, .int .i64 x937.f1, .int .i64 x937.f2])]) (cells := #[.int .i64 x937.f0, .int .i64 x937.f1, .int .i64 x937.f2]) (es := List.map enc23 ([x937] : List S23)) Try.underlying22 TI24 Z24 rfl (by decide) (by decide) (by kernel_rfl) (by kernel_rfl) rfl (flat_map enc23_ok _) (ltn rfl)) rfl ?_
        intro v950
        by_cases c951 : (l873.length + ([x937] : List S23).length) * 24 ≤ 140737488355328
        · rw [if_pos c951] at h
          refine VL.sG (o_append 2 appm Try.underlying22 EI24 rfl rfl rfl (.inr ⟨0, _, rfl⟩) (bndm c951) (ltn rfl)) rfl ?_
          intro v952
          refine VL.va (op_assign rfl (ltn rfl)) rfl ?_
          refine VL.done ?_
          refine VN.block ?_
          refine VN.then ?_
          refine VC.region ?_
          refine VL.va (op_ari64 rfl rfl rfl (ltn rfl)) rfl ?_
          refine VL.va (op_move rfl (ltn rfl)) rfl ?_
          refine VL.done ?_
          refine VN.again [] [1, 2] (ihl1 v868 l869 v952 (l873 ++ ([x937] : List S23)) (wrap64 (i875 + 1)) h) ⟨rfl, ⟨rfl, rfl, rfl, rfl, rfl, rfl, trivial⟩, ⟨⟨0, rfl⟩, ⟨1, rfl⟩, ⟨2, rfl⟩, trivial⟩, rfl, by decide, rfl, by decide⟩
        · rw [if_neg c951] at h; cases h
    · rw [if_neg c936] at h; cases h
  · rw [if_neg c917] at h
    obtain rfl : b915 = false := hb915.symm.trans (decide_eq_false c917)
    refine VC.cond_f rfl ?_
    refine VC.exit ?_
    refine VX.then ?_
    refine VX.then ?_
    refine VX.hit ?_
    refine VN.then ?_
    refine VC.seq ?_
    refine VC.region ?_
    refine VL.va (op_move rfl (ltn rfl)) rfl ?_
    refine VL.va (op_move rfl (ltn rfl)) rfl ?_
    refine VL.va (op_assign rfl (ltn rfl)) rfl ?_
    refine VL.va (op_assign rfl (ltn rfl)) rfl ?_
    refine VL.done ?_
    refine VN.then ?_
    refine VC.ret ?_
    simp only [Option.some.injEq, Prod.mk.injEq] at h
    obtain ⟨rfl, rfl⟩ := h
    exact VR.fn (rs := [.tmp 4, .tmp 5]) [] [(v868, 24, 3, l869.map enc23), (v872, 24, 3, l873.map enc23)] [0, 1] rfl (.tmp rfl (.tmp rfl .nil)) ⟨v868, v872, rfl, rfl, rfl⟩ trivial rfl (by decide)
set_option maxHeartbeats 4000000 in
set_option maxRecDepth 100000 in
theorem slices_BinarySearchFunc_api_Timer_api_Timer_api_Timer.ok (k : Nat) (l0 : List S23) (a1_0 : Int) (a1_1 : Int) (a1_2 : Int) (v0 : Value) (r1 : Int) (r2 : Bool) (h : slices_BinarySearchFunc_api_Timer_api_Timer_api_Timer.f k l0 a1_0 a1_1 a1_2 = some (r1, r2)) :
    VCalls Try.prog 22 [v0, .agg #[.int .i64 a1_0, .int .i64 a1_1, .int .i64 a1_2], (.func (.func 23) #[] #[])] [.row v0 3 (l0.map enc23)] (fun v G own => v = .tuple #[.int .i64 r1, .bool r2] ∧ G = [] ∧ own = []) := by
  refine VCalls.intro Try.func22 rfl (len rfl) fun E hC => ?_
  unfold slices_BinarySearchFunc_api_Timer_api_Timer_api_Timer.f at h
  refine VC.seq ?_
  refine VC.region ?_
  refine VL.sG (o_box rfl (.agg (.c rfl (.c rfl (.c rfl .nil)))) (ltn rfl)) rfl ?_
  intro g968
  refine VL.va (op_assign rfl (ltn rfl)) rfl ?_
  refine VL.va (op_assign rfl (ltn rfl)) rfl ?_
  refine VL.done ?_
  refine VN.then ?_
  refine VC.seq ?_
  refine VC.region ?_
  refine VL.va (op_move rfl (ltn rfl)) rfl ?_
  refine VL.va (op_len (m := l0.length) 0 lenm Try.underlying22 rfl rfl (ltn rfl)) rfl ?_
  refine VL.va (op_assign rfl (ltn rfl)) rfl ?_
  refine VL.done ?_
  refine VN.then ?_
  refine VC.seq ?_
  refine VC.region ?_
  refine VL.va (op_move rfl (ltn rfl)) rfl ?_
  refine VL.va (op_assign rfl (ltn rfl)) rfl ?_
  refine VL.va (op_assign rfl (ltn rfl)) rfl ?_
  refine VL.done ?_
  refine VN.then ?_
  refine VC.seq ?_
  refine VC.block ?_
  refine VC.loop2 (fun (i1013 : Int) (i1014 : Int) => ⟨49, [(0, v0), (2, (.func (.func 23) #[] #[])), (4, .pointer (some ⟨g968, 0, none⟩)), (6, .int .i64 0), (7, .bool false), (8, .int .i64 (l0.length : Int)), (9, .int .i64 i1013), (10, .int .i64 i1014)], [.row v0 3 (l0.map enc23)], [(g968, 24, [.int .i64 a1_0, .int .i64 a1_1, .int .i64 a1_2])], []⟩) (fun (ml1 : Nat) (i1013 : Int) (i1014 : Int) => slices_BinarySearchFunc_api_Timer_api_Timer_api_Timer.l1 k a1_0 a1_1 a1_2 l0 ml1 i1013 i1014 = some (r1, r2)) k 0 (l0.length : Int) [0] [] h ⟨rfl, ⟨rfl, rfl, rfl, rfl, rfl, rfl, rfl, rfl, trivial⟩, ⟨⟨0, rfl⟩, trivial⟩, rfl, by decide, rfl, by decide⟩ (by intros; simp [slices_BinarySearchFunc_api_Timer_api_Timer_api_Timer.l1]) ?_
  clear h
  intro ml1 ihl1 i1013 i1014 h
  simp only [slices_BinarySearchFunc_api_Timer_api_Timer_api_Timer.l1] at h
  refine VC.seq ?_
  refine VC.seq ?_
  refine VC.region ?_
  refine VL.va (op_move rfl (ltn rfl)) rfl ?_
  refine VL.va (op_move rfl (ltn rfl)) rfl ?_
  refine VL.letter (decide (i1013 < i1014)) fun b1034 hb1034 => ?_
  refine VL.va (op_cmp rfl rfl (congrArg some hb1034) (ltn rfl)) rfl ?_
  refine VL.done ?_
  refine VN.then ?_
  by_cases c1035 : i1013 < i1014
  · rw [if_pos c1035] at h
    obtain rfl : b1034 = true := hb1034.symm.trans (decide_eq_true c1035)
    refine VC.cond_t rfl ?_
    refine VC.skip ?_
    refine VN.then ?_
    refine VC.block ?_
    refine VC.seq ?_
    refine VC.region ?_
    refine VL.va (op_move rfl (ltn rfl)) rfl ?_
    refine VL.va (op_move rfl (ltn rfl)) rfl ?_
    refine VL.va (op_ari64 rfl rfl rfl (ltn rfl)) rfl ?_
    refine VL.va (op_conv Try.underlying3 Try.underlying54 rfl rfl (ltn rfl)) rfl ?_
    refine VL.va (op_shr rfl rfl (by decide) rfl (ltn rfl)) rfl ?_
    refine VL.va (op_conv Try.underlying54 Try.underlying3 rfl (i64w _) (ltn rfl)) rfl ?_
    refine VL.va (op_assign rfl (ltn rfl)) rfl ?_
    refine VL.done ?_
    refine VN.then ?_
    by_cases c1036 : 0 ≤ wrap64 ((IntKind.u64.wrap (wrap64 (i1013 + i1014))).fdiv (2 ^ min (1 : Int).toNat IntKind.u64.bits))
    · rw [if_pos c1036] at h
      replace h := Option.bind_eq_some_iff.1 h
      obtain ⟨x1037, hx1037, h⟩ := h
      replace h := Option.bind_eq_some_iff.1 h
      obtain ⟨t1038, hA1039, h⟩ := h
      refine VC.letter (decide (t1038 < 0)) fun b1040 hb1040 => ?_
      refine VC.open (m := l0.length) 0 lenm rfl (pos_get hx1037) ?_
      rintro ad975 n976 rfl
      refine VC.join0 (⟨49, [(0, (.slice (some ad975) l0.length n976)), (2, (.func (.func 23) #[] #[])), (4, .pointer (some ⟨g968, 0, none⟩)), (6, .int .i64 0), (7, .bool false), (8, .int .i64 (l0.length : Int)), (9, .int .i64 i1013), (10, .int .i64 i1014), (11, .int .i64 (wrap64 ((IntKind.u64.wrap (wrap64 (i1013 + i1014))).fdiv (2 ^ min (1 : Int).toNat IntKind.u64.bits)))), (15, .int .i64 i1013), (16, .int .i64 i1014), (17, .bool true), (18, .int .i64 i1013), (19, .int .i64 i1014), (20, .int .i64 (wrap64 (i1013 + i1014))), (21, .int .u64 (IntKind.u64.wrap (wrap64 (i1013 + i1014)))), (22, .int .u64 ((IntKind.u64.wrap (wrap64 (i1013 + i1014))).fdiv (2 ^ min (1 : Int).toNat IntKind.u64.bits))), (23, .int .i64 (wrap64 ((IntKind.u64.wrap (wrap64 (i1013 + i1014))).fdiv (2 ^ min (1 : Int).toNat IntKind.u64.bits)))), (24, (.func (.func 23) #[] #[])), (25, (.slice (some ad975) l0.length n976)), (26, .int .i64 (wrap64 ((IntKind.u64.wrap (wrap64 (i1013 + i1014))).fdiv (2 ^ min (1 : Int).toNat IntKind.u64.bits)))), (28, .agg #[.int .i64 x1037.f0, .int .i64 x1037.f1, .int .i64 x1037.f2]), (29, .agg #[.int .i64 a1_0, .int .i64 a1_1, .int .i64 a1_2]), (30, .int .i64 t1038), (31, .bool b1040)], [.row (.slice (some ad975) l0.length n976) 3 (l0.map enc23)], [(g968, 24, [.int .i64 a1_0, .int .i64 a1_1, .int .i64 a1_2])], []⟩) (True) ?_ ?_
      · refine VC.draw ⟨0, [], [.row (.slice (some ad975) l0.length n976) 3 (l0.map enc23)], [(g968, 24, [.int .i64 a1_0, .int .i64 a1_1, .int .i64 a1_2])], []⟩ (by kernel_rfl) rfl (by kernel_rfl) (n := 8) (listed := LB 8 0) ?_
        refine VA.va (i := 0) (listed' := LB 8 1) rfl (op_move rfl (ltn rfl)) rfl (by kernel_rfl) (by kernel_rfl) (by kernel_rfl) (by kernel_rfl) ⟨⟨⟨0, rfl⟩, trivial⟩, ⟨⟨0, rfl⟩, trivial⟩, trivial⟩ (fun _ _ _ h => h) ?_
        refine VA.va (i := 1) (listed' := LB 8 3) rfl (op_move rfl (ltn rfl)) rfl (by kernel_rfl) (by kernel_rfl) (by kernel_rfl) (by kernel_rfl) ⟨⟨⟨0, rfl⟩, trivial⟩, ⟨⟨0, rfl⟩, trivial⟩, trivial⟩ (fun _ _ _ h => h) ?_
        refine VA.va (i := 2) (listed' := LB 8 7) rfl (op_move rfl (ltn rfl)) rfl (by kernel_rfl) (by kernel_rfl) (by kernel_rfl) (by kernel_rfl) ⟨⟨⟨0, rfl⟩, trivial⟩, ⟨⟨0, rfl⟩, trivial⟩, trivial⟩ (fun _ _ _ h => h) ?_
        refine VA.va (i := 3) (listed' := LB 8 15) rfl (op_indexAddr Try.underlying22 TI24 rfl rfl c1036 (lt_get c1036 hx1037) rfl (ltn rfl)) rfl (by kernel_rfl) (by kernel_rfl) (by kernel_rfl) (by kernel_rfl) ⟨⟨⟨0, rfl⟩, trivial⟩, ⟨⟨0, rfl⟩, trivial⟩, trivial⟩ (fun _ _ _ h => h) ?_
        refine VA.va (i := 4) (listed' := LB 8 31) rfl (op_load_row (o := 0) 0 (wrap64 ((IntKind.u64.wrap (wrap64 (i1013 + i1014))).fdiv (2 ^ min (1 : Int).toNat IntKind.u64.bits))).toNat 3 rfl rfl (get_map hx1037) TI24 rfl (fun h => absurd h (by decide)) (ltn rfl)) rfl (by kernel_rfl) (by kernel_rfl) (by kernel_rfl) (by kernel_rfl) ⟨⟨⟨0, rfl⟩, trivial⟩, ⟨⟨0, rfl⟩, trivial⟩, trivial⟩ (fun _ _ _ h => h) ?_
        refine VA.va (i := 5) (listed' := LB 8 63) rfl (op_load 0 3 rfl rfl TI24 rfl (fun h => absurd h (by decide)) (ltn rfl)) rfl (by kernel_rfl) (by kernel_rfl) (by kernel_rfl) (by kernel_rfl) ⟨⟨⟨0, rfl⟩, trivial⟩, ⟨⟨0, rfl⟩, trivial⟩, trivial⟩ (fun _ _ _ h => h) ?_
        refine VA.oneC (i := 6) (listed' := LB 8 127) (by kernel_rfl) rfl (o_call0 FO23 (timer_compare.ok k x1037.f0 x1037.f1 x1037.f2 a1_0 a1_1 a1_2 t1038 hA1039) rfl rfl (ltn rfl) (All_of .nil)) rfl (by kernel_rfl) ?_
        rintro _ _ _ ⟨rfl, rfl, rfl⟩
        refine ⟨⟨⟨⟨0, rfl⟩, trivial⟩, ⟨⟨0, rfl⟩, trivial⟩, trivial⟩, ?_⟩
        refine VA.va (i := 7) (listed' := LB 8 255) rfl (op_cmp rfl rfl (congrArg some hb1040) (ltn rfl)) rfl (by kernel_rfl) (by kernel_rfl) (by kernel_rfl) (by kernel_rfl) ⟨⟨⟨0, rfl⟩, trivial⟩, ⟨⟨0, rfl⟩, trivial⟩, trivial⟩ (fun _ _ _ h => h) ?_
        refine VA.done (by kernel_rfl) ?_
        exact VN.meet0  [0] [] trivial ⟨rfl, ⟨rfl, rfl, rfl, rfl, rfl, rfl, rfl, rfl, rfl, rfl, rfl, rfl, rfl, rfl, rfl, rfl, rfl, rfl, rfl, rfl, rfl, rfl, rfl, rfl, rfl, trivial⟩, ⟨⟨0, rfl⟩, trivial⟩, rfl, by decide, rfl, by decide⟩
      intro _
      by_cases c1041 : t1038 < 0
      · rw [if_pos c1041] at h
        obtain rfl : b1040 = true := hb1040.symm.trans (decide_eq_true c1041)
        refine VC.cond_t rfl ?_
        refine VC.region ?_
        refine VL.va (op_move rfl (ltn rfl)) rfl ?_
        refine VL.va (op_ari64 rfl rfl rfl (ltn rfl)) rfl ?_
        refine VL.va (op_assign rfl (ltn rfl)) rfl ?_
        refine VL.done ?_
        refine VN.block ?_
        refine VN.again [0] [] (ihl1 (wrap64 ((wrap64 ((IntKind.u64.wrap (wrap64 (i1013 + i1014))).fdiv (2 ^ min (1 : Int).toNat IntKind.u64.bits))) + 1)) i1014 h) ⟨rfl, ⟨rfl, rfl, rfl, rfl, rfl, rfl, rfl, rfl, trivial⟩, ⟨⟨0, rfl⟩, trivial⟩, rfl, by decide, rfl, by decide⟩
      · rw [if_neg c1041] at h
        obtain rfl : b1040 = false := hb1040.symm.trans (decide_eq_false c1041)
        refine VC.cond_f rfl ?_
        refine VC.region ?_
        refine VL.va (op_move rfl (ltn rfl)) rfl ?_
        refine VL.va (op_assign rfl (ltn rfl)) rfl ?_
        refine VL.done ?_
        refine VN.block ?_
        refine VN.again [0] [] (ihl1 i1013 (wrap64 ((IntKind.u64.wrap (wrap64 (i1013 + i1014))).fdiv (2 ^ min (1 : Int).toNat IntKind.u64.bits))) h) ⟨rfl, ⟨rfl, rfl, rfl, rfl, rfl, rfl, rfl, rfl, trivial⟩, ⟨⟨0, rfl⟩, trivial⟩, rfl, by decide, rfl, by decide⟩
    · rw [if_neg c1036] at h; cases h
  · rw [if_neg c1035] at h
    obtain rfl : b1034 = false := hb1034.symm.trans (decide_eq_false c1035)
    refine VC.cond_f rfl ?_
    refine VC.exit ?_
    refine VX.then ?_
    refine VX.then ?_
    refine VX.hit ?_
    refine VN.then ?_
    refine VC.letter (decide (i1013 < (l0.length : Int))) fun b1042 hb1042 => ?_
    by_cases c1043 : i1013 < (l0.length : Int)
    · rw [if_pos c1043] at h
      obtain rfl : b1042 = true := hb1042.symm.trans (decide_eq_true c1043)
      by_cases c1044 : 0 ≤ i1013
      · rw [if_pos c1044] at h
        replace h := Option.bind_eq_some_iff.1 h
        obtain ⟨x1045, hx1045, h⟩ := h
        replace h := Option.bind_eq_some_iff.1 h
        obtain ⟨t1046, hA1047, h⟩ := h
        refine VC.letter ((t1046 == 0)) fun b1048 hb1048 => ?_
        refine VC.open (m := l0.length) 0 lenm rfl (pos_get hx1045) ?_
        rintro ad975 n976 rfl
        refine VC.join0 (⟨49, [(6, .int .i64 i1013), (7, .bool b1048)], [], [], []⟩) (True) ?_ ?_
        · refine VC.draw ⟨0, [], [.row (.slice (some ad975) l0.length n976) 3 (l0.map enc23)], [(g968, 24, [.int .i64 a1_0, .int .i64 a1_1, .int .i64 a1_2])], []⟩ (by kernel_rfl) rfl (by kernel_rfl) (n := 16) (listed := LB 16 0) ?_
          refine VA.va (i := 0) (listed' := LB 16 1) rfl (op_move rfl (ltn rfl)) rfl (by kernel_rfl) (by kernel_rfl) (by kernel_rfl) (by kernel_rfl) ⟨⟨⟨0, rfl⟩, trivial⟩, ⟨⟨0, rfl⟩, trivial⟩, trivial⟩ (fun _ _ _ h => h) ?_
          refine VA.va (i := 1) (listed' := LB 16 3) rfl (op_move rfl (ltn rfl)) rfl (by kernel_rfl) (by kernel_rfl) (by kernel_rfl) (by kernel_rfl) ⟨⟨⟨0, rfl⟩, trivial⟩, ⟨⟨0, rfl⟩, trivial⟩, trivial⟩ (fun _ _ _ h => h) ?_
          refine VA.va (i := 2) (listed' := LB 16 7) rfl (op_move rfl (ltn rfl)) rfl (by kernel_rfl) (by kernel_rfl) (by kernel_rfl) (by kernel_rfl) ⟨⟨⟨0, rfl⟩, trivial⟩, ⟨⟨0, rfl⟩, trivial⟩, trivial⟩ (fun _ _ _ h => h) ?_
          refine VA.va (i := 3) (listed' := LB 16 15) rfl (op_cmp rfl rfl (congrArg some hb1042) (ltn rfl)) rfl (by kernel_rfl) (by kernel_rfl) (by kernel_rfl) (by kernel_rfl) ⟨⟨⟨0, rfl⟩, trivial⟩, ⟨⟨0, rfl⟩, trivial⟩, trivial⟩ (fun _ _ _ h => h) ?_
          refine VA.va (i := 4) (listed' := LB 16 31) rfl (op_move rfl (ltn rfl)) rfl (by kernel_rfl) (by kernel_rfl) (by kernel_rfl) (by kernel_rfl) ⟨⟨⟨0, rfl⟩, trivial⟩, ⟨⟨0, rfl⟩, trivial⟩, trivial⟩ (fun _ _ _ h => h) ?_
          refine VA.va (i := 5) (listed' := LB 16 63) rfl (op_move rfl (ltn rfl)) rfl (by kernel_rfl) (by kernel_rfl) (by kernel_rfl) (by kernel_rfl) ⟨⟨⟨0, rfl⟩, trivial⟩, ⟨⟨0, rfl⟩, trivial⟩, trivial⟩ (fun _ _ _ h => h) ?_
          refine VA.va (i := 6) (listed' := LB 16 127) rfl (op_move rfl (ltn rfl)) rfl (by kernel_rfl) (by kernel_rfl) (by kernel_rfl) (by kernel_rfl) ⟨⟨⟨0, rfl⟩, trivial⟩, ⟨⟨0, rfl⟩, trivial⟩, trivial⟩ (fun _ _ _ h => h) ?_
          refine VA.va (i := 7) (listed' := LB 16 255) rfl (op_move rfl (ltn rfl)) rfl (by kernel_rfl) (by kernel_rfl) (by kernel_rfl) (by kernel_rfl) ⟨⟨⟨0, rfl⟩, trivial⟩, ⟨⟨0, rfl⟩, trivial⟩, trivial⟩ (fun _ _ _ h => h) ?_
          refine VA.va (i := 8) (listed' := LB 16 511) rfl (op_indexAddr Try.underlying22 TI24 rfl rfl c1044 (lt_get c1044 hx1045) rfl (ltn rfl)) rfl (by kernel_rfl) (by kernel_rfl) (by kernel_rfl) (by kernel_rfl) ⟨⟨⟨0, rfl⟩, trivial⟩, ⟨⟨0, rfl⟩, trivial⟩, trivial⟩ (fun _ _ _ h => h) ?_
          refine VA.va (i := 9) (listed' := LB 16 1023) rfl (op_load_row (o := 0) 0 i1013.toNat 3 rfl rfl (get_map hx1045) TI24 rfl (fun h => absurd h (by decide)) (ltn rfl)) rfl (by kernel_rfl) (by kernel_rfl) (by kernel_rfl) (by kernel_rfl) ⟨⟨⟨0, rfl⟩, trivial⟩, ⟨⟨0, rfl⟩, trivial⟩, trivial⟩ (fun _ _ _ h => h) ?_
          refine VA.va (i := 10) (listed' := LB 16 2047) rfl (op_load 0 3 rfl rfl TI24 rfl (fun h => absurd h (by decide)) (ltn rfl)) rfl (by kernel_rfl) (by kernel_rfl) (by kernel_rfl) (by kernel_rfl) ⟨⟨⟨0, rfl⟩, trivial⟩, ⟨⟨0, rfl⟩, trivial⟩, trivial⟩ (fun _ _ _ h => h) ?_
          refine VA.oneC (i := 11) (listed' := LB 16 4095) (by kernel_rfl) rfl (o_call0 FO23 (timer_compare.ok k x1045.f0 x1045.f1 x1045.f2 a1_0 a1_1 a1_2 t1046 hA1047) rfl rfl (ltn rfl) (All_of .nil)) rfl (by kernel_rfl) ?_
          rintro _ _ _ ⟨rfl, rfl, rfl⟩
          refine ⟨⟨⟨⟨0, rfl⟩, trivial⟩, ⟨⟨0, rfl⟩, trivial⟩, trivial⟩, ?_⟩
          refine VA.va (i := 12) (listed' := LB 16 8191) rfl (op_cmp rfl rfl (congrArg some hb1048) (ltn rfl)) rfl (by kernel_rfl) (by kernel_rfl) (by kernel_rfl) (by kernel_rfl) ⟨⟨⟨0, rfl⟩, trivial⟩, ⟨⟨0, rfl⟩, trivial⟩, trivial⟩ (fun _ _ _ h => h) ?_
          refine VA.va (i := 13) (listed' := LB 16 16383) rfl (op_pick rfl rfl (ltn rfl)) rfl (by kernel_rfl) (by kernel_rfl) (by kernel_rfl) (by kernel_rfl) ⟨⟨⟨0, rfl⟩, trivial⟩, ⟨⟨0, rfl⟩, trivial⟩, trivial⟩ (fun _ _ _ h => h) ?_
          refine VA.va (i := 14) (listed' := LB 16 32767) rfl (op_assign rfl (ltn rfl)) rfl (by kernel_rfl) (by kernel_rfl) (by kernel_rfl) (by kernel_rfl) ⟨⟨⟨0, rfl⟩, trivial⟩, ⟨⟨0, rfl⟩, trivial⟩, trivial⟩ (fun _ _ _ h => h) ?_
          refine VA.va (i := 15) (listed' := LB 16 65535) rfl (op_assign rfl (ltn rfl)) rfl (by kernel_rfl) (by kernel_rfl) (by kernel_rfl) (by kernel_rfl) ⟨⟨⟨0, rfl⟩, trivial⟩, ⟨⟨0, rfl⟩, trivial⟩, trivial⟩ (fun _ _ _ h => h) ?_
          refine VA.done (by kernel_rfl) ?_
          exact VN.meet0  [] [] trivial ⟨rfl, ⟨rfl, rfl, trivial⟩, trivial, rfl, by decide, rfl, by decide⟩
        intro _
        refine VC.ret ?_
        simp only [Option.some.injEq, Prod.mk.injEq] at h
        obtain ⟨rfl, rfl⟩ := h
        subst hb1048
        exact VR.fn (rs := [.tmp 6, .tmp 7]) [] [] [] rfl (.tmp rfl (.tmp rfl .nil)) ⟨rfl, rfl, rfl⟩ trivial rfl (by decide)
      · rw [if_neg c1044] at h; cases h
    · rw [if_neg c1043] at h
      obtain rfl : b1042 = false := hb1042.symm.trans (decide_eq_false c1043)
      refine VC.join0 (⟨49, [(6, .int .i64 i1013), (7, .bool false)], [], [], []⟩) (True) ?_ ?_
      · refine VC.draw ⟨0, [], [], [], []⟩ (by kernel_rfl) rfl (by kernel_rfl) (n := 16) (listed := LB 16 0) ?_
        refine VA.va (i := 0) (listed' := LB 16 1) rfl (op_move rfl (ltn rfl)) rfl (by kernel_rfl) (by kernel_rfl) (by kernel_rfl) (by kernel_rfl) ⟨trivial, trivial, trivial⟩ (fun _ _ _ h => h) ?_
        refine VA.va (i := 1) (listed' := LB 16 3) rfl (op_move rfl (ltn rfl)) rfl (by kernel_rfl) (by kernel_rfl) (by kernel_rfl) (by kernel_rfl) ⟨trivial, trivial, trivial⟩ (fun _ _ _ h => h) ?_
        refine VA.va (i := 2) (listed' := LB 16 7) rfl (op_move rfl (ltn rfl)) rfl (by kernel_rfl) (by kernel_rfl) (by kernel_rfl) (by kernel_rfl) ⟨trivial, trivial, trivial⟩ (fun _ _ _ h => h) ?_
        refine VA.va (i := 3) (listed' := LB 16 15) rfl (op_cmp rfl rfl (congrArg some hb1042) (ltn rfl)) rfl (by kernel_rfl) (by kernel_rfl) (by kernel_rfl) (by kernel_rfl) ⟨trivial, trivial, trivial⟩ (fun _ _ _ h => h) ?_
        refine VA.va (i := 4) (listed' := LB 16 31) rfl (op_move rfl (ltn rfl)) rfl (by kernel_rfl) (by kernel_rfl) (by kernel_rfl) (by kernel_rfl) ⟨trivial, trivial, trivial⟩ (fun _ _ _ h => h) ?_
        refine VA.un (i := 5) (listed' := LB 16 63) rfl rfl rfl (ltn rfl) (by kernel_rfl) (by kernel_rfl) (by kernel_rfl) (by kernel_rfl) ⟨trivial, trivial, trivial⟩ (fun _ _ _ h => h) ?_
        refine VA.un (i := 6) (listed' := LB 16 127) rfl rfl rfl (ltn rfl) (by kernel_rfl) (by kernel_rfl) (by kernel_rfl) (by kernel_rfl) ⟨trivial, trivial, trivial⟩ (fun _ _ _ h => h) ?_
        refine VA.un (i := 7) (listed' := LB 16 255) rfl rfl rfl (ltn rfl) (by kernel_rfl) (by kernel_rfl) (by kernel_rfl) (by kernel_rfl) ⟨trivial, trivial, trivial⟩ (fun _ _ _ h => h) ?_
        refine VA.un (i := 8) (listed' := LB 16 511) rfl rfl rfl (ltn rfl) (by kernel_rfl) (by kernel_rfl) (by kernel_rfl) (by kernel_rfl) ⟨trivial, trivial, trivial⟩ (fun _ _ _ h => h) ?_
        refine VA.un (i := 9) (listed' := LB 16 1023) rfl rfl rfl (ltn rfl) (by kernel_rfl) (by kernel_rfl) (by kernel_rfl) (by kernel_rfl) ⟨trivial, trivial, trivial⟩ (fun _ _ _ h => h) ?_
        refine VA.un (i := 10) (listed' := LB 16 2047) rfl rfl rfl (ltn rfl) (by kernel_rfl) (by kernel_rfl) (by kernel_rfl) (by kernel_rfl) ⟨trivial, trivial, trivial⟩ (fun _ _ _ h => h) ?_
        refine VA.un (i := 11) (listed' := LB 16 4095) rfl rfl rfl (ltn rfl) (by kernel_rfl) (by kernel_rfl) (by kernel_rfl) (by kernel_rfl) ⟨trivial, trivial, trivial⟩ (fun _ _ _ h => h) ?_
        refine VA.un (i := 12) (listed' := LB 16 8191) rfl rfl rfl (ltn rfl) (by kernel_rfl) (by kernel_rfl) (by kernel_rfl) (by kernel_rfl) ⟨trivial, trivial, trivial⟩ (fun _ _ _ h => h) ?_
        refine VA.va (i := 13) (listed' := LB 16 16383) rfl (op_pick rfl rfl (ltn rfl)) rfl (by kernel_rfl) (by kernel_rfl) (by kernel_rfl) (by kernel_rfl) ⟨trivial, trivial, trivial⟩ (fun _ _ _ h => h) ?_
        refine VA.va (i := 14) (listed' := LB 16 32767) rfl (op_assign rfl (ltn rfl)) rfl (by kernel_rfl) (by kernel_rfl) (by kernel_rfl) (by kernel_rfl) ⟨trivial, trivial, trivial⟩ (fun _ _ _ h => h) ?_
        refine VA.va (i := 15) (listed' := LB 16 65535) rfl (op_assign rfl (ltn rfl)) rfl (by kernel_rfl) (by kernel_rfl) (by kernel_rfl) (by kernel_rfl) ⟨trivial, trivial, trivial⟩ (fun _ _ _ h => h) ?_
        refine VA.done (by kernel_rfl) ?_
        exact VN.meet0  [] [] trivial ⟨rfl, ⟨rfl, rfl, trivial⟩, trivial, rfl, by decide, rfl, by decide⟩
      intro _
      refine VC.ret ?_
      simp only [Option.some.injEq, Prod.mk.injEq] at h
      obtain ⟨rfl, rfl⟩ := h
      exact VR.fn (rs := [.tmp 6, .tmp 7]) [] [] [] rfl (.tmp rfl (.tmp rfl .nil)) ⟨rfl, rfl, rfl⟩ trivial rfl (by decide)

end Go.Proofs.Ytmcfgahjchkgaaa.PTimerSets
