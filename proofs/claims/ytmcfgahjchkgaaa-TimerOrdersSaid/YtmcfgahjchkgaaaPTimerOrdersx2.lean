/- Written by a program of this repo: what the program's functions do, each as a Lean function, shown of the loaded code; or a statement's row over that; no condition of its own. -/
import Derived.Test.YtmcfgahjchkgaaaPTimerOrdersx1
namespace Go.Proofs.Ytmcfgahjchkgaaa.PTimerOrders
open Go Go.RowKit Go.Proofs.YtmcfgahjchkgaaaV
set_option linter.unusedVariables false
set_option linter.unusedSimpArgs false

set_option maxHeartbeats 4000000 in
set_option maxRecDepth 100000 in
theorem timer_Right.ok (k : Nat) (l0 : List S23) (v0 : Value) (r1 : Bool) (h : timer_Right.f k l0 = some r1) :
    VCalls Try.prog 11 [v0] [.row v0 3 (l0.map enc23)] (fun v G own => v = .bool r1 ∧ G = [] ∧ own = []) := by
  refine VCalls.intro Try.func11 rfl (len rfl) fun E hC => ?_
  unfold timer_Right.f at h
  refine VC.seq ?_
  refine VC.region ?_
  refine VL.va (op_assign rfl (ltn rfl)) rfl ?_
  refine VL.done ?_
  refine VN.then ?_
  refine VC.seq ?_
  refine VC.seq ?_
  refine VC.region ?_
  refine VL.va (op_move rfl (ltn rfl)) rfl ?_
  refine VL.va (op_len (m := l0.length) 0 lenm Try.underlying22 rfl rfl (ltn rfl)) rfl ?_
  refine VL.va (op_move rfl (ltn rfl)) rfl ?_
  refine VL.done ?_
  refine VN.then ?_
  refine VC.block ?_
  refine VC.loop1 (fun (i321 : Int) => ⟨34, [(0, v0), (2, .bool false), (5, v0), (6, .int .i64 (l0.length : Int)), (7, .int .i64 i321)], [.row v0 3 (l0.map enc23)], [], []⟩) (fun (ml1 : Nat) (i321 : Int) => timer_Right.l1 k l0 ml1 i321 = some r1) k 0 [] [] h ⟨rfl, ⟨rfl, rfl, rfl, rfl, rfl, trivial⟩, ⟨⟨0, rfl⟩, trivial⟩, rfl, by decide, rfl, by decide⟩ (by intros; simp [timer_Right.l1]) ?_
  clear h
  intro ml1 ihl1 i321 h
  simp only [timer_Right.l1] at h
  refine VC.seq ?_
  refine VC.region ?_
  refine VL.letter (decide (i321 < (l0.length : Int))) fun b363 hb363 => ?_
  refine VL.va (op_cmp rfl rfl (congrArg some hb363) (ltn rfl)) rfl ?_
  refine VL.done ?_
  refine VN.then ?_
  refine VC.seq ?_
  by_cases c620 : i321 < (l0.length : Int)
  · rw [if_pos c620] at h
    obtain rfl : b363 = true := hb363.symm.trans (decide_eq_true c620)
    refine VC.cond_t rfl ?_
    refine VC.skip ?_
    refine VN.then ?_
    refine VC.seq ?_
    refine VC.block ?_
    refine VC.seq ?_
    refine VC.region ?_
    refine VL.va (op_move rfl (ltn rfl)) rfl ?_
    by_cases c640 : 0 ≤ i321
    · rw [if_pos c640] at h
      replace h := Option.bind_eq_some_iff.1 h
      obtain ⟨x641, hx641, h⟩ := h
      refine VL.open (m := l0.length) 0 lenm rfl (pos_get hx641) ?_
      rintro ad642 n643 rfl
      refine VL.va (op_indexAddr Try.underlying22 TI24 rfl rfl c640 (lt_get c640 hx641) rfl (ltn rfl)) rfl ?_
      refine VL.va (op_load_row (o := 0) 0 i321.toNat 3 rfl rfl (get_map hx641) TI24 rfl (fun h => absurd h (by decide)) (ltn rfl)) rfl ?_
      refine VL.sG (o_alloc (us := [.int .i64 0, .int .i64 0, .int .i64 0]) Z24 rfl (ltn rfl)) rfl ?_
      intro g644
      refine VL.va (op_assign rfl (ltn rfl)) rfl ?_
      refine VL.step1 (o_store 0 3 rfl rfl rfl TI24 (.agg (.c rfl (.c rfl (.c rfl .nil)))) rfl (len rfl)) rfl ?_
      refine VL.done ?_
      refine VN.then ?_
      replace h := Option.bind_eq_some_iff.1 h
      obtain ⟨t645, hA646, h⟩ := h
      by_cases c647 : t645 = true
      · rw [if_pos c647] at h
        obtain rfl := c647
        by_cases c648 : i321 ≤ (l0.length : Int)
        · rw [if_pos c648] at h
          replace h := Option.bind_eq_some_iff.1 h
          obtain ⟨⟨t651, t652⟩, hA653, h⟩ := h
          dsimp only at h
          replace h := Option.bind_eq_some_iff.1 h
          obtain ⟨t656, hA657, h⟩ := h
          refine VC.join3 (fun (v650 : Value) (g654 : Nat) (g655 : Nat) => ⟨34, [(0, (.slice (some ad642) l0.length n643)), (2, .bool false), (3, .int .i64 i321), (4, .pointer (some ⟨g644, 0, none⟩)), (5, (.slice (some ad642) l0.length n643)), (6, .int .i64 (l0.length : Int)), (7, .int .i64 i321), (8, .bool true), (9, .int .i64 i321), (11, .agg #[.int .i64 x641.f0, .int .i64 x641.f1, .int .i64 x641.f2]), (12, .agg #[.int .i64 x641.f0, .int .i64 x641.f1, .int .i64 x641.f2]), (13, .bool true), (14, .bool false), (15, .bool false), (16, (.slice (some ad642) l0.length n643)), (17, .int .i64 i321), (18, v650), (19, .pointer (some ⟨g644, 1, none⟩)), (20, .int .i64 x641.f1), (21, .pointer (some ⟨g644, 2, none⟩)), (22, .int .i64 x641.f2), (23, (.func (.func 29) #[] #[.pointer (some ⟨g654, 0, none⟩), .pointer (some ⟨g655, 0, none⟩)])), (24, .bool t656), (25, .bool t656)], [.at_ ⟨g654, 0, none⟩ [.int .i64 t651], .at_ ⟨g655, 0, none⟩ [.int .i64 t652], .row v650 3 (((l0.take i321.toNat).drop 0).map enc23), .row (.slice (some ad642) l0.length n643) 3 (l0.map enc23)], [(g644, 24, [.int .i64 x641.f0, .int .i64 x641.f1, .int .i64 x641.f2])], []⟩) (fun (v650 : Value) (g654 : Nat) (g655 : Nat) => True) ?_ ?_
          · refine VC.draw ⟨0, [], [.row (.slice (some ad642) l0.length n643) 3 (l0.map enc23)], [(g644, 24, [.int .i64 x641.f0, .int .i64 x641.f1, .int .i64 x641.f2])], []⟩ (by kernel_rfl) rfl (by kernel_rfl) (n := 14) (listed := LB 14 0) ?_
            refine VA.va (i := 0) (listed' := LB 14 1) rfl (op_load 0 3 rfl rfl TI24 rfl (fun h => absurd h (by decide)) (ltn rfl)) rfl (by kernel_rfl) (by kernel_rfl) (by kernel_rfl) (by kernel_rfl) ⟨⟨⟨0, rfl⟩, trivial⟩, ⟨⟨0, rfl⟩, trivial⟩, trivial⟩ (fun _ _ _ h => h) ?_
            refine VA.oneC (i := 1) (listed' := LB 14 3) (by kernel_rfl) rfl (o_call0 FO19 (timer_may.ok x641.f0 x641.f1 x641.f2 true hA646) rfl rfl (ltn rfl) (All_of .nil)) rfl (by kernel_rfl) ?_
            rintro _ _ _ ⟨rfl, rfl, rfl⟩
            refine ⟨⟨⟨⟨0, rfl⟩, trivial⟩, ⟨⟨0, rfl⟩, trivial⟩, trivial⟩, ?_⟩
            refine VA.va (i := 2) (listed' := LB 14 7) rfl (op_not rfl rfl (ltn rfl)) rfl (by kernel_rfl) (by kernel_rfl) (by kernel_rfl) (by kernel_rfl) ⟨⟨⟨0, rfl⟩, trivial⟩, ⟨⟨0, rfl⟩, trivial⟩, trivial⟩ (fun _ _ _ h => h) ?_
            refine VA.va (i := 3) (listed' := LB 14 15) rfl (op_move rfl (ltn rfl)) rfl (by kernel_rfl) (by kernel_rfl) (by kernel_rfl) (by kernel_rfl) ⟨⟨⟨0, rfl⟩, trivial⟩, ⟨⟨0, rfl⟩, trivial⟩, trivial⟩ (fun _ _ _ h => h) ?_
            refine VA.va (i := 4) (listed' := LB 14 31) rfl (op_move rfl (ltn rfl)) rfl (by kernel_rfl) (by kernel_rfl) (by kernel_rfl) (by kernel_rfl) ⟨⟨⟨0, rfl⟩, trivial⟩, ⟨⟨0, rfl⟩, trivial⟩, trivial⟩ (fun _ _ _ h => h) ?_
            refine VA.va (i := 5) (listed' := LB 14 63) rfl (op_move rfl (ltn rfl)) rfl (by kernel_rfl) (by kernel_rfl) (by kernel_rfl) (by kernel_rfl) ⟨⟨⟨0, rfl⟩, trivial⟩, ⟨⟨0, rfl⟩, trivial⟩, trivial⟩ (fun _ _ _ h => h) ?_
            refine VA.cut (i := 6) (listed' := LB 14 127) rfl (m := l0.length) 0 0 i321.toNat lenm cutm Try.underlying22 TI24 rfl rfl ⟨rfl, ⟨_, _, rfl, c640, rfl⟩, by omega, by omega⟩ (ltn rfl) rfl (by kernel_rfl) (by kernel_rfl) (by kernel_rfl) (by kernel_rfl) ⟨⟨⟨0, rfl⟩, trivial⟩, ⟨⟨0, rfl⟩, trivial⟩, trivial⟩ (fun _ _ _ _ h => h) ?_
            intro v650
            refine VA.va (i := 7) (listed' := LB 14 255) rfl (op_fieldAddr FI24_1 rfl (add_at _ _ _) (ltn rfl)) rfl (by kernel_rfl) (by kernel_rfl) (by kernel_rfl) (by kernel_rfl) ⟨⟨⟨1, rfl⟩, trivial⟩, ⟨⟨0, rfl⟩, trivial⟩, trivial⟩ (fun _ _ _ h => h) ?_
            refine VA.va (i := 8) (listed' := LB 14 511) rfl (op_load 0 1 rfl rfl TI3 rfl (by decide) (ltn rfl)) rfl (by kernel_rfl) (by kernel_rfl) (by kernel_rfl) (by kernel_rfl) ⟨⟨⟨1, rfl⟩, trivial⟩, ⟨⟨0, rfl⟩, trivial⟩, trivial⟩ (fun _ _ _ h => h) ?_
            refine VA.va (i := 9) (listed' := LB 14 1023) rfl (op_fieldAddr FI24_2 rfl (add_at _ _ _) (ltn rfl)) rfl (by kernel_rfl) (by kernel_rfl) (by kernel_rfl) (by kernel_rfl) ⟨⟨⟨1, rfl⟩, trivial⟩, ⟨⟨0, rfl⟩, trivial⟩, trivial⟩ (fun _ _ _ h => h) ?_
            refine VA.va (i := 10) (listed' := LB 14 2047) rfl (op_load 0 1 rfl rfl TI3 rfl (by decide) (ltn rfl)) rfl (by kernel_rfl) (by kernel_rfl) (by kernel_rfl) (by kernel_rfl) ⟨⟨⟨1, rfl⟩, trivial⟩, ⟨⟨0, rfl⟩, trivial⟩, trivial⟩ (fun _ _ _ h => h) ?_
            refine VA.oneC (i := 11) (listed' := LB 14 4095) (by kernel_rfl) rfl (o_call0 FO21 (timer_of.ok x641.f1 x641.f2 t651 t652 hA653) rfl rfl (ltn rfl) (All_of .nil)) rfl (by kernel_rfl) ?_
            rintro _ _ _ ⟨g654, g655, rfl, rfl, rfl⟩
            refine ⟨⟨⟨⟨3, rfl⟩, trivial⟩, ⟨⟨0, rfl⟩, trivial⟩, trivial⟩, ?_⟩
            refine VA.oneC (i := 12) (listed' := LB 14 8191) (by kernel_rfl) rfl (o_call0 FO25 (slices_ContainsFunc_api_Timer_api_Timer.ok k ((l0.take i321.toNat).drop 0) t651 t652 v650 g654 g655 t656 hA657) rfl rfl (ltn rfl) (All_of (.cons (List.mem_of_getElem? (i := 2) rfl) (.cons (List.mem_of_getElem? (i := 0) rfl) (.cons (List.mem_of_getElem? (i := 1) rfl) .nil))))) rfl (by kernel_rfl) ?_
            rintro _ _ _ ⟨rfl, rfl, rfl⟩
            refine ⟨⟨⟨⟨3, rfl⟩, trivial⟩, ⟨⟨0, rfl⟩, trivial⟩, trivial⟩, ?_⟩
            refine VA.va (i := 13) (listed' := LB 14 16383) rfl (op_pick rfl rfl (ltn rfl)) rfl (by kernel_rfl) (by kernel_rfl) (by kernel_rfl) (by kernel_rfl) ⟨⟨⟨3, rfl⟩, trivial⟩, ⟨⟨0, rfl⟩, trivial⟩, trivial⟩ (fun _ _ _ h => h) ?_
            refine VA.done (by kernel_rfl) ?_
            exact VN.meet3 v650 g654 g655 [0] [] trivial ⟨rfl, ⟨rfl, rfl, rfl, rfl, rfl, rfl, rfl, rfl, rfl, rfl, rfl, rfl, rfl, rfl, rfl, rfl, rfl, rfl, rfl, rfl, rfl, rfl, rfl, rfl, trivial⟩, ⟨⟨0, rfl⟩, ⟨1, rfl⟩, ⟨2, rfl⟩, ⟨3, rfl⟩, trivial⟩, rfl, by decide, rfl, by decide⟩
          intro v650 g654 g655 _
          by_cases c658 : t656 = true
          · rw [if_pos c658] at h
            obtain rfl := c658
            refine VC.cond_t rfl ?_
            refine VC.seq ?_
            refine VC.region ?_
            refine VL.va (op_assign rfl (ltn rfl)) rfl ?_
            refine VL.done ?_
            refine VN.then ?_
            refine VC.ret ?_
            refine VR.block ?_
            refine VR.then ?_
            refine VR.then ?_
            refine VR.block ?_
            refine VR.then ?_
            obtain rfl := Option.some.inj h
            exact VR.fn (rs := [.tmp 2]) [] [] [] rfl (.tmp rfl .nil) ⟨rfl, rfl, rfl⟩ trivial rfl (by decide)
          · rw [if_neg c658] at h
            obtain rfl := Bool.eq_false_iff.2 c658
            refine VC.cond_f rfl ?_
            refine VC.skip ?_
            refine VN.block ?_
            refine VN.then ?_
            refine VC.region ?_
            refine VL.va (op_ari64 rfl rfl rfl (ltn rfl)) rfl ?_
            refine VL.va (op_move rfl (ltn rfl)) rfl ?_
            refine VL.done ?_
            refine VN.again [] [] (ihl1 (wrap64 (i321 + 1)) h) ⟨rfl, ⟨rfl, rfl, rfl, rfl, rfl, trivial⟩, ⟨⟨3, rfl⟩, trivial⟩, rfl, by decide, rfl, by decide⟩
        · rw [if_neg c648] at h; cases h
      · rw [if_neg c647] at h
        obtain rfl := Bool.eq_false_iff.2 c647
        refine VC.join0 (⟨34, [(0, (.slice (some ad642) l0.length n643)), (2, .bool false), (3, .int .i64 i321), (4, .pointer (some ⟨g644, 0, none⟩)), (5, (.slice (some ad642) l0.length n643)), (6, .int .i64 (l0.length : Int)), (7, .int .i64 i321), (8, .bool true), (9, .int .i64 i321), (11, .agg #[.int .i64 x641.f0, .int .i64 x641.f1, .int .i64 x641.f2]), (12, .agg #[.int .i64 x641.f0, .int .i64 x641.f1, .int .i64 x641.f2]), (13, .bool false), (14, .bool true), (15, .bool true), (16, undef), (17, undef), (18, undef), (19, undef), (20, undef), (21, undef), (22, undef), (23, undef), (24, undef), (25, .bool true)], [.row (.slice (some ad642) l0.length n643) 3 (l0.map enc23)], [(g644, 24, [.int .i64 x641.f0, .int .i64 x641.f1, .int .i64 x641.f2])], []⟩) (True) ?_ ?_
        · refine VC.draw ⟨0, [], [], [(g644, 24, [.int .i64 x641.f0, .int .i64 x641.f1, .int .i64 x641.f2])], []⟩ (by kernel_rfl) rfl (by kernel_rfl) (n := 14) (listed := LB 14 0) ?_
          refine VA.va (i := 0) (listed' := LB 14 1) rfl (op_load 0 3 rfl rfl TI24 rfl (fun h => absurd h (by decide)) (ltn rfl)) rfl (by kernel_rfl) (by kernel_rfl) (by kernel_rfl) (by kernel_rfl) ⟨trivial, ⟨⟨0, rfl⟩, trivial⟩, trivial⟩ (fun _ _ _ h => h) ?_
          refine VA.oneC (i := 1) (listed' := LB 14 3) (by kernel_rfl) rfl (o_call0 FO19 (timer_may.ok x641.f0 x641.f1 x641.f2 false hA646) rfl rfl (ltn rfl) (All_of .nil)) rfl (by kernel_rfl) ?_
          rintro _ _ _ ⟨rfl, rfl, rfl⟩
          refine ⟨⟨trivial, ⟨⟨0, rfl⟩, trivial⟩, trivial⟩, ?_⟩
          refine VA.va (i := 2) (listed' := LB 14 7) rfl (op_not rfl rfl (ltn rfl)) rfl (by kernel_rfl) (by kernel_rfl) (by kernel_rfl) (by kernel_rfl) ⟨trivial, ⟨⟨0, rfl⟩, trivial⟩, trivial⟩ (fun _ _ _ h => h) ?_
          refine VA.va (i := 3) (listed' := LB 14 15) rfl (op_move rfl (ltn rfl)) rfl (by kernel_rfl) (by kernel_rfl) (by kernel_rfl) (by kernel_rfl) ⟨trivial, ⟨⟨0, rfl⟩, trivial⟩, trivial⟩ (fun _ _ _ h => h) ?_
          refine VA.un (i := 4) (listed' := LB 14 31) rfl rfl rfl (ltn rfl) (by kernel_rfl) (by kernel_rfl) (by kernel_rfl) (by kernel_rfl) ⟨trivial, ⟨⟨0, rfl⟩, trivial⟩, trivial⟩ (fun _ _ _ h => h) ?_
          refine VA.un (i := 5) (listed' := LB 14 63) rfl rfl rfl (ltn rfl) (by kernel_rfl) (by kernel_rfl) (by kernel_rfl) (by kernel_rfl) ⟨trivial, ⟨⟨0, rfl⟩, trivial⟩, trivial⟩ (fun _ _ _ h => h) ?_
          refine VA.un (i := 6) (listed' := LB 14 127) rfl rfl rfl (ltn rfl) (by kernel_rfl) (by kernel_rfl) (by kernel_rfl) (by kernel_rfl) ⟨trivial, ⟨⟨0, rfl⟩, trivial⟩, trivial⟩ (fun _ _ _ h => h) ?_
          refine VA.un (i := 7) (listed' := LB 14 255) rfl rfl rfl (ltn rfl) (by kernel_rfl) (by kernel_rfl) (by kernel_rfl) (by kernel_rfl) ⟨trivial, ⟨⟨0, rfl⟩, trivial⟩, trivial⟩ (fun _ _ _ h => h) ?_
          refine VA.un (i := 8) (listed' := LB 14 511) rfl rfl rfl (ltn rfl) (by kernel_rfl) (by kernel_rfl) (by kernel_rfl) (by kernel_rfl) ⟨trivial, ⟨⟨0, rfl⟩, trivial⟩, trivial⟩ (fun _ _ _ h => h) ?_
          refine VA.un (i := 9) (listed' := LB 14 1023) rfl rfl rfl (ltn rfl) (by kernel_rfl) (by kernel_rfl) (by kernel_rfl) (by kernel_rfl) ⟨trivial, ⟨⟨0, rfl⟩, trivial⟩, trivial⟩ (fun _ _ _ h => h) ?_
          refine VA.un (i := 10) (listed' := LB 14 2047) rfl rfl rfl (ltn rfl) (by kernel_rfl) (by kernel_rfl) (by kernel_rfl) (by kernel_rfl) ⟨trivial, ⟨⟨0, rfl⟩, trivial⟩, trivial⟩ (fun _ _ _ h => h) ?_
          refine VA.un (i := 11) (listed' := LB 14 4095) rfl rfl rfl (ltn rfl) (by kernel_rfl) (by kernel_rfl) (by kernel_rfl) (by kernel_rfl) ⟨trivial, ⟨⟨0, rfl⟩, trivial⟩, trivial⟩ (fun _ _ _ h => h) ?_
          refine VA.un (i := 12) (listed' := LB 14 8191) rfl rfl rfl (ltn rfl) (by kernel_rfl) (by kernel_rfl) (by kernel_rfl) (by kernel_rfl) ⟨trivial, ⟨⟨0, rfl⟩, trivial⟩, trivial⟩ (fun _ _ _ h => h) ?_
          refine VA.va (i := 13) (listed' := LB 14 16383) rfl (op_pick rfl rfl (ltn rfl)) rfl (by kernel_rfl) (by kernel_rfl) (by kernel_rfl) (by kernel_rfl) ⟨trivial, ⟨⟨0, rfl⟩, trivial⟩, trivial⟩ (fun _ _ _ h => h) ?_
          refine VA.done (by kernel_rfl) ?_
          exact VN.meet0  [0] [] trivial ⟨rfl, ⟨rfl, rfl, rfl, rfl, rfl, rfl, rfl, rfl, rfl, rfl, rfl, rfl, rfl, rfl, rfl, rfl, rfl, rfl, rfl, rfl, rfl, rfl, rfl, rfl, trivial⟩, ⟨⟨0, rfl⟩, trivial⟩, rfl, by decide, rfl, by decide⟩
        intro _
        refine VC.cond_t rfl ?_
        refine VC.seq ?_
        refine VC.region ?_
        refine VL.va (op_assign rfl (ltn rfl)) rfl ?_
        refine VL.done ?_
        refine VN.then ?_
        refine VC.ret ?_
        refine VR.block ?_
        refine VR.then ?_
        refine VR.then ?_
        refine VR.block ?_
        refine VR.then ?_
        obtain rfl := Option.some.inj h
        exact VR.fn (rs := [.tmp 2]) [] [] [] rfl (.tmp rfl .nil) ⟨rfl, rfl, rfl⟩ trivial rfl (by decide)
    · rw [if_neg c640] at h; cases h
  · rw [if_neg c620] at h
    obtain rfl : b363 = false := hb363.symm.trans (decide_eq_false c620)
    refine VC.cond_f rfl ?_
    refine VC.exit ?_
    refine VX.then ?_
    refine VX.then ?_
    refine VX.hit ?_
    refine VN.then ?_
    refine VC.seq ?_
    refine VC.region ?_
    refine VL.va (op_move rfl (ltn rfl)) rfl ?_
    refine VL.va (op_len (m := l0.length) 0 lenm Try.underlying22 rfl rfl (ltn rfl)) rfl ?_
    refine VL.letter (decide ((l0.length : Int) ≤ 96)) fun b663 hb663 => ?_
    refine VL.va (op_cmp rfl rfl (congrArg some hb663) (ltn rfl)) rfl ?_
    refine VL.va (op_move rfl (ltn rfl)) rfl ?_
    by_cases c664 : (l0.length : Int) ≤ 96
    · rw [if_pos c664] at h
      obtain rfl : b663 = true := hb663.symm.trans (decide_eq_true c664)
      refine VL.va (op_move rfl (ltn rfl)) rfl ?_
      replace h := Option.bind_eq_some_iff.1 h
      obtain ⟨t665, hA666, h⟩ := h
      refine VL.sC (o_call0 FO26 (slices_IsSortedFunc_api_Timer_api_Timer.ok k l0 v0 t665 hA666) rfl rfl (ltn rfl) (All_of (.cons (List.mem_of_getElem? (i := 0) rfl) .nil))) rfl ?_
      rintro _ _ _ ⟨rfl, rfl, rfl⟩
      refine VL.va (op_pick rfl rfl (ltn rfl)) rfl ?_
      refine VL.va (op_assign rfl (ltn rfl)) rfl ?_
      refine VL.done ?_
      refine VN.then ?_
      refine VC.ret ?_
      obtain rfl := Option.some.inj h
      exact VR.fn (rs := [.tmp 2]) [] [] [] rfl (.tmp rfl .nil) ⟨rfl, rfl, rfl⟩ trivial rfl (by decide)
    · rw [if_neg c664] at h
      obtain rfl : b663 = false := hb663.symm.trans (decide_eq_false c664)
      refine VL.un rfl rfl (ltn rfl) ?_
      refine VL.un rfl rfl (ltn rfl) ?_
      refine VL.va (op_pick rfl rfl (ltn rfl)) rfl ?_
      refine VL.va (op_assign rfl (ltn rfl)) rfl ?_
      refine VL.done ?_
      refine VN.then ?_
      refine VC.ret ?_
      obtain rfl := Option.some.inj h
      exact VR.fn (rs := [.tmp 2]) [] [] [] rfl (.tmp rfl .nil) ⟨rfl, rfl, rfl⟩ trivial rfl (by decide)
set_option maxHeartbeats 4000000 in
set_option maxRecDepth 100000 in
theorem timer_parted_Timer.ok (k : Nat) (l0 : List S23) (a1_0_0 : Int) (a1_1_0 : Int) (v0 : Value) (p1_0 : Nat) (p1_1 : Nat) (r1 : List S23) (r2 : List S23) (h : timer_parted_Timer.f k l0 a1_0_0 a1_1_0 = some (r1, r2)) :
    VCalls Try.prog 20 [v0, (.func (.func 29) #[] #[.pointer (some ⟨p1_0, 0, none⟩), .pointer (some ⟨p1_1, 0, none⟩)])] [.row v0 3 (l0.map enc23), .at_ ⟨p1_0, 0, none⟩ [.int .i64 a1_0_0], .at_ ⟨p1_1, 0, none⟩ [.int .i64 a1_1_0]] (fun v G own => ∃ w0 w1 : Value, v = .tuple #[w0, w1] ∧ G = [] ∧ own = [(w0, 24, 3, r1.map enc23), (w1, 24, 3, r2.map enc23)]) := by
  refine VCalls.intro Try.func20 rfl (len rfl) fun E hC => ?_
  unfold timer_parted_Timer.f at h
  refine VC.seq ?_
  refine VC.region ?_
  refine VL.va (op_assign rfl (ltn rfl)) rfl ?_
  refine VL.va (op_assign rfl (ltn rfl)) rfl ?_
  refine VL.done ?_
  refine VN.then ?_
  refine VC.seq ?_
  refine VC.seq ?_
  refine VC.region ?_
  refine VL.va (op_move rfl (ltn rfl)) rfl ?_
  refine VL.va (op_len (m := l0.length) 0 lenm Try.underlying22 rfl rfl (ltn rfl)) rfl ?_
  refine VL.va (op_move rfl (ltn rfl)) rfl ?_
  refine VL.done ?_
  refine VN.then ?_
  refine VC.block ?_
  refine VC.nilRow' 24 3 ?_
  refine VC.nilRow' 24 3 ?_
  refine VC.loop5 (fun (v869 : Value) (l870 : List S23) (v873 : Value) (l874 : List S23) (i876 : Int) => ⟨28, [(1, (.func (.func 29) #[] #[.pointer (some ⟨p1_0, 0, none⟩), .pointer (some ⟨p1_1, 0, none⟩)])), (4, v869), (5, v873), (8, v0), (9, .int .i64 (l0.length : Int)), (10, .int .i64 i876)], [.at_ ⟨p1_0, 0, none⟩ [.int .i64 a1_0_0], .at_ ⟨p1_1, 0, none⟩ [.int .i64 a1_1_0], .row v0 3 (l0.map enc23)], [], [(v869, 24, 3, l870.map enc23), (v873, 24, 3, l874.map enc23)]⟩) (fun (ml1 : Nat) (v869 : Value) (l870 : List S23) (v873 : Value) (l874 : List S23) (i876 : Int) => timer_parted_Timer.l1 k a1_0_0 a1_1_0 l0 ml1 l870 l874 i876 = some (r1, r2)) k (.slice none 0 0) ([] : List S23) (.slice none 0 0) ([] : List S23) 0 [] [1, 0] h ⟨rfl, ⟨rfl, rfl, rfl, rfl, rfl, rfl, trivial⟩, ⟨⟨1, rfl⟩, ⟨2, rfl⟩, ⟨0, rfl⟩, trivial⟩, rfl, by decide, rfl, by decide⟩ (by intros; simp [timer_parted_Timer.l1]) ?_
  clear h
  intro ml1 ihl1 v869 l870 v873 l874 i876 h
  simp only [timer_parted_Timer.l1] at h
  refine VC.seq ?_
  refine VC.region ?_
  refine VL.letter (decide (i876 < (l0.length : Int))) fun b916 hb916 => ?_
  refine VL.va (op_cmp rfl rfl (congrArg some hb916) (ltn rfl)) rfl ?_
  refine VL.done ?_
  refine VN.then ?_
  refine VC.seq ?_
  by_cases c918 : i876 < (l0.length : Int)
  · rw [if_pos c918] at h
    obtain rfl : b916 = true := hb916.symm.trans (decide_eq_true c918)
    refine VC.cond_t rfl ?_
    refine VC.skip ?_
    refine VN.then ?_
    refine VC.seq ?_
    refine VC.block ?_
    refine VC.seq ?_
    refine VC.region ?_
    by_cases c937 : 0 ≤ i876
    · rw [if_pos c937] at h
      replace h := Option.bind_eq_some_iff.1 h
      obtain ⟨x938, hx938, h⟩ := h
      refine VL.open (m := l0.length) 2 lenm rfl (pos_get hx938) ?_
      rintro ad939 n940 rfl
      refine VL.va (op_indexAddr Try.underlying22 TI24 rfl rfl c937 (lt_get c937 hx938) rfl (ltn rfl)) rfl ?_
      refine VL.va (op_load_row (o := 0) 2 i876.toNat 3 rfl rfl (get_map hx938) TI24 rfl (fun h => absurd h (by decide)) (ltn rfl)) rfl ?_
      refine VL.sG (o_alloc (us := [.int .i64 0, .int .i64 0, .int .i64 0]) Z24 rfl (ltn rfl)) rfl ?_
      intro g941
      refine VL.step1 (o_store 0 3 rfl rfl rfl TI24 (.agg (.c rfl (.c rfl (.c rfl .nil)))) rfl (len rfl)) rfl ?_
      refine VL.done ?_
      refine VN.then ?_
      refine VC.seq ?_
      refine VC.region ?_
      refine VL.va (op_move rfl (ltn rfl)) rfl ?_
      refine VL.va (op_load 0 3 rfl rfl TI24 rfl (fun h => absurd h (by decide)) (ltn rfl)) rfl ?_
      replace h := Option.bind_eq_some_iff.1 h
      obtain ⟨t942, hA943, h⟩ := h
      refine VL.sC (o_call (vals := [.agg #[.int .i64 x938.f0, .int .i64 x938.f1, .int .i64 x938.f2]]) (caps := [.pointer (some ⟨p1_0, 0, none⟩), .pointer (some ⟨p1_1, 0, none⟩)]) FO29 (timer_of_1.ok x938.f0 x938.f1 x938.f2 a1_0_0 a1_1_0 p1_0 p1_1 t942 hA943) rfl rfl (ltn rfl) (All_of (.cons (List.mem_of_getElem? (i := 0) rfl) (.cons (List.mem_of_getElem? (i := 1) rfl) .nil)))) rfl ?_
      rintro _ _ _ ⟨rfl, rfl, rfl⟩
      refine VL.done ?_
      refine VN.then ?_
      by_cases c944 : t942 = true
      · rw [if_pos c944] at h
        obtain rfl := c944
        refine VC.cond_t rfl ?_
        refine VC.region ?_
        refine VL.va (op_move rfl (ltn rfl)) rfl ?_
        refine VL.va (op_load 0 3 rfl rfl TI24 rfl (fun h => absurd h (by decide)) (ltn rfl)) rfl ?_
        refine VL.sG (o_buildSlice (vals := [(0, .agg #[.int .i64 x938.f0, .int .i64 x938.f1, .int .i64 x938.f2])]) (cells := #[.int .i64 x938.f0, .int .i64 x938.f1, .int .i64 x938.f2]) (es := List.map enc23 ([x938] : List S23)) Try.underlying22 TI24 Z24 rfl (by decide) (by decide) (by kernel_rfl) (by kernel_rfl) rfl (flat_map enc23_ok _) (ltn rfl)) rfl ?_
        intro v946
        by_cases c947 : (l870.length + ([x938] : List S23).length) * 24 ≤ 140737488355328
        · rw [if_pos c947] at h
          refine VL.sG (o_append 1 appm Try.underlying22 EI24 rfl rfl rfl (.inr ⟨0, _, rfl⟩) (bndm c947) (ltn rfl)) rfl ?_
          intro v948
          refine VL.va (op_assign rfl (ltn rfl)) rfl ?_
          refine VL.done ?_
          refine VN.block ?_
          refine VN.then ?_
          refine VC.region ?_
          refine VL.va (op_ari64 rfl rfl rfl (ltn rfl)) rfl ?_
          refine VL.va (op_move rfl (ltn rfl)) rfl ?_
          refine VL.done ?_
          refine VN.again [] [1, 2] (ihl1 v948 (l870 ++ ([x938] : List S23)) v873 l874 (wrap64 (i876 + 1)) h) ⟨rfl, ⟨rfl, rfl, rfl, rfl, rfl, rfl, trivial⟩, ⟨⟨0, rfl⟩, ⟨1, rfl⟩, ⟨2, rfl⟩, trivial⟩, rfl, by decide, rfl, by decide⟩
        · rw [if_neg c947] at h; cases h
      · rw [if_neg c944] at h
        obtain rfl := Bool.eq_false_iff.2 c944
        refine VC.cond_f rfl ?_
        refine VC.region ?_
        refine VL.va (op_move rfl (ltn rfl)) rfl ?_
        refine VL.va (op_load 0 3 rfl rfl TI24 rfl (fun h => absurd h (by decide)) (ltn rfl)) rfl ?_
        refine VL.sG (o_buildSlice (vals := [(0, .agg #[.int .i64 x938.f0, .int .i64 x938.f1, .int .i64 x938.f2])]) (cells := #[.int .i64 x938.f0, .int .i64 x938.f1, .int .i64 x938.f2]) (es := List.map enc23 ([x938] : List S23)) Try.underlying22 TI24 Z24 rfl (by decide) (by decide) (by kernel_rfl) (by kernel_rfl) rfl (flat_map enc23_ok _) (ltn rfl)) rfl ?_
        intro v951
        by_cases c952 : (l874.length + ([x938] : List S23).length) * 24 ≤ 140737488355328
        · rw [if_pos c952] at h
          refine VL.sG (o_append 2 appm Try.underlying22 EI24 rfl rfl rfl (.inr ⟨0, _, rfl⟩) (bndm c952) (ltn rfl)) rfl ?_
          intro v953
          refine VL.va (op_assign rfl (ltn rfl)) rfl ?_
          refine VL.done ?_
          refine VN.block ?_
          refine VN.then ?_
          refine VC.region ?_
          refine VL.va (op_ari64 rfl rfl rfl (ltn rfl)) rfl ?_
          refine VL.va (op_move rfl (ltn rfl)) rfl ?_
          refine VL.done ?_
          refine VN.again [] [1, 2] (ihl1 v869 l870 v953 (l874 ++ ([x938] : List S23)) (wrap64 (i876 + 1)) h) ⟨rfl, ⟨rfl, rfl, rfl, rfl, rfl, rfl, trivial⟩, ⟨⟨0, rfl⟩, ⟨1, rfl⟩, ⟨2, rfl⟩, trivial⟩, rfl, by decide, rfl, by decide⟩
        · rw [if_neg c952] at h; cases h
    · rw [if_neg c937] at h; cases h
  · rw [if_neg c918] at h
    obtain rfl : b916 = false := hb916.symm.trans (decide_eq_false c918)
    refine VC.cond_f rfl ?_
    refine VC.exit ?_
    refine VX.then ?_
    refine VX.then ?_
    refine VX.hit ?_
    refine VN.then ?_
    refine VC.seq ?_
    refine VC.region ?_
    refine VL.va (op_move rfl (ltn rfl)) rfl ?_
    refine VL.va (op_move rfl (ltn rfl)) rfl ?_
    refine VL.va (op_assign rfl (ltn rfl)) rfl ?_
    refine VL.va (op_assign rfl (ltn rfl)) rfl ?_
    refine VL.done ?_
    refine VN.then ?_
    refine VC.ret ?_
    simp only [Option.some.injEq, Prod.mk.injEq] at h
    obtain ⟨rfl, rfl⟩ := h
    exact VR.fn (rs := [.tmp 4, .tmp 5]) [] [(v869, 24, 3, l870.map enc23), (v873, 24, 3, l874.map enc23)] [0, 1] rfl (.tmp rfl (.tmp rfl .nil)) ⟨v869, v873, rfl, rfl, rfl⟩ trivial rfl (by decide)
set_option maxHeartbeats 4000000 in
set_option maxRecDepth 100000 in
theorem slices_BinarySearchFunc_api_Timer_api_Timer_api_Timer.ok (k : Nat) (l0 : List S23) (a1_0 : Int) (a1_1 : Int) (a1_2 : Int) (v0 : Value) (r1 : Int) (r2 : Bool) (h : slices_BinarySearchFunc_api_Timer_api_Timer_api_Timer.f k l0 a1_0 a1_1 a1_2 = some (r1, r2)) :
    VCalls Try.prog 22 [v0, .agg #[.int .i64 a1_0, .int .i64 a1_1, .int .i64 a1_2], (.func (.func 23) #[] #[])] [.row v0 3 (l0.map enc23)] (fun v G own => v = .tuple #[.int .i64 r1, .bool r2] ∧ G = [] ∧ own = []) := by
  refine VCalls.intro Try.func22 rfl (len rfl) fun E hC => ?_
  unfold slices_BinarySearchFunc_api_Timer_api_Timer_api_Timer.f at h
  refine VC.seq ?_
  refine VC.region ?_
  refine VL.sG (o_box rfl (.agg (.c rfl (.c rfl (.c rfl .nil)))) (ltn rfl)) rfl ?_
  intro g969
  refine VL.va (op_assign rfl (ltn rfl)) rfl ?_
  refine VL.va (op_assign rfl (ltn rfl)) rfl ?_
  refine VL.done ?_
  refine VN.then ?_
  refine VC.seq ?_
  refine VC.region ?_
  refine VL.va (op_move rfl (ltn rfl)) rfl ?_
  refine VL.va (op_len (m := l0.length) 0 lenm Try.underlying22 rfl rfl (ltn rfl)) rfl ?_
  refine VL.va (op_assign rfl (ltn rfl)) rfl ?_
  refine VL.done ?_
  refine VN.then ?_
  refine VC.seq ?_
  refine VC.region ?_
  refine VL.va (op_move rfl (ltn rfl)) rfl ?_
  refine VL.va (op_assign rfl (ltn rfl)) rfl ?_
  refine VL.va (op_assign rfl (ltn rfl)) rfl ?_
  refine VL.done ?_
  refine VN.then ?_
  refine VC.seq ?_
  refine VC.block ?_
  refine VC.loop2 (fun (i1014 : Int) (i1015 : Int) => ⟨49, [(0, v0), (2, (.func (.func 23) #[] #[])), (4, .pointer (some ⟨g969, 0, none⟩)), (6, .int .i64 0), (7, .bool false), (8, .int .i64 (l0.length : Int)), (9, .int .i64 i1014), (10, .int .i64 i1015)], [.row v0 3 (l0.map enc23)], [(g969, 24, [.int .i64 a1_0, .int .i64 a1_1, .int .i64 a1_2])], []⟩) (fun (ml1 : Nat) (i1014 : Int) (i1015 : Int) => slices_BinarySearchFunc_api_Timer_api_Timer_api_Timer.l1 k a1_0 a1_1 a1_2 l0 ml1 i1014 i1015 = some (r1, r2)) k 0 (l0.length : Int) [0] [] h ⟨rfl, ⟨rfl, rfl, rfl, rfl, rfl, rfl, rfl, rfl, trivial⟩, ⟨⟨0, rfl⟩, trivial⟩, rfl, by decide, rfl, by decide⟩ (by intros; simp [slices_BinarySearchFunc_api_Timer_api_Timer_api_Timer.l1]) ?_
  clear h
  intro ml1 ihl1 i1014 i1015 h
  simp only [slices_BinarySearchFunc_api_Timer_api_Timer_api_Timer.l1] at h
  refine VC.seq ?_
  refine VC.seq ?_
  refine VC.region ?_
  refine VL.va (op_move rfl (ltn rfl)) rfl ?_
  refine VL.va (op_move rfl (ltn rfl)) rfl ?_
  refine VL.letter (decide (i1014 < i1015)) fun b1035 hb1035 => ?_
  refine VL.va (op_cmp rfl rfl (congrArg some hb1035) (ltn rfl)) rfl ?_
  refine VL.done ?_
  refine VN.then ?_
  by_cases c1036 : i1014 < i1015
  · rw [if_pos c1036] at h
    obtain rfl : b1035 = true := hb1035.symm.trans (decide_eq_true c1036)
    refine VC.cond_t rfl ?_
    refine VC.skip ?_
    refine VN.then ?_
    refine VC.block ?_
    refine VC.seq ?_
    refine VC.region ?_
    refine VL.va (op_move rfl (ltn rfl)) rfl ?_
    refine VL.va (op_move rfl (ltn rfl)) rfl ?_
    refine VL.va (op_ari64 rfl rfl rfl (ltn rfl)) rfl ?_
    refine VL.va (op_conv Try.underlying3 Try.underlying54 rfl rfl (ltn rfl)) rfl ?_
    refine VL.va (op_shr rfl rfl (by decide) rfl (ltn rfl)) rfl ?_
    refine VL.va (op_conv Try.underlying54 Try.underlying3 rfl (i64w _) (ltn rfl)) rfl ?_
    refine VL.va (op_assign rfl (ltn rfl)) rfl ?_
    refine VL.done ?_
    refine VN.then ?_
    by_cases c1037 : 0 ≤ wrap64 ((IntKind.u64.wrap (wrap64 (i1014 + i1015))).fdiv (2 ^ min (1 : Int).toNat IntKind.u64.bits))
    · rw [if_pos c1037] at h
      replace h := Option.bind_eq_some_iff.1 h
      obtain ⟨x1038, hx1038, h⟩ := h
      replace h := Option.bind_eq_some_iff.1 h
      obtain ⟨t1039, hA1040, h⟩ := h
      refine VC.letter (decide (t1039 < 0)) fun b1041 hb1041 => ?_
      refine VC.open (m := l0.length) 0 lenm rfl (pos_get hx1038) ?_
      rintro ad976 n977 rfl
      refine VC.join0 (⟨49, [(0, (.slice (some ad976) l0.length n977)), (2, (.func (.func 23) #[] #[])), (4, .pointer (some ⟨g969, 0, none⟩)), (6, .int .i64 0), (7, .bool false), (8, .int .i64 (l0.length : Int)), (9, .int .i64 i1014), (10, .int .i64 i1015), (11, .int .i64 (wrap64 ((IntKind.u64.wrap (wrap64 (i1014 + i1015))).fdiv (2 ^ min (1 : Int).toNat IntKind.u64.bits)))), (15, .int .i64 i1014), (16, .int .i64 i1015), (17, .bool true), (18, .int .i64 i1014), (19, .int .i64 i1015), (20, .int .i64 (wrap64 (i1014 + i1015))), (21, .int .u64 (IntKind.u64.wrap (wrap64 (i1014 + i1015)))), (22, .int .u64 ((IntKind.u64.wrap (wrap64 (i1014 + i1015))).fdiv (2 ^ min (1 : Int).toNat IntKind.u64.bits))), (23, .int .i64 (wrap64 ((IntKind.u64.wrap (wrap64 (i1014 + i1015))).fdiv (2 ^ min (1 : Int).toNat IntKind.u64.bits)))), (24, (.func (.func 23) #[] #[])), (25, (.slice (some ad976) l0.length n977)), (26, .int .i64 (wrap64 ((IntKind.u64.wrap (wrap64 (i1014 + i1015))).fdiv (2 ^ min (1 : Int).toNat IntKind.u64.bits)))), (28, .agg #[.int .i64 x1038.f0, .int .i64 x1038.f1, .int .i64 x1038.f2]), (29, .agg #[.int .i64 a1_0, .int .i64 a1_1, .int .i64 a1_2]), (30, .int .i64 t1039), (31, .bool b1041)], [.row (.slice (some ad976) l0.length n977) 3 (l0.map enc23)], [(g969, 24, [.int .i64 a1_0, .int .i64 a1_1, .int .i64 a1_2])], []⟩) (True) ?_ ?_
      · refine VC.draw ⟨0, [], [.row (.slice (some ad976) l0.length n977) 3 (l0.map enc23)], [(g969, 24, [.int .i64 a1_0, .int .i64 a1_1, .int .i64 a1_2])], []⟩ (by kernel_rfl) rfl (by kernel_rfl) (n := 8) (listed := LB 8 0) ?_
        refine VA.va (i := 0) (listed' := LB 8 1) rfl (op_move rfl (ltn rfl)) rfl (by kernel_rfl) (by kernel_rfl) (by kernel_rfl) (by kernel_rfl) ⟨⟨⟨0, rfl⟩, trivial⟩, ⟨⟨0, rfl⟩, trivial⟩, trivial⟩ (fun _ _ _ h => h) ?_
        refine VA.va (i := 1) (listed' := LB 8 3) rfl (op_move rfl (ltn rfl)) rfl (by kernel_rfl) (by kernel_rfl) (by kernel_rfl) (by kernel_rfl) ⟨⟨⟨0, rfl⟩, trivial⟩, ⟨⟨0, rfl⟩, trivial⟩, trivial⟩ (fun _ _ _ h => h) ?_
        refine VA.va (i := 2) (listed' := LB 8 7) rfl (op_move rfl (ltn rfl)) rfl (by kernel_rfl) (by kernel_rfl) (by kernel_rfl) (by kernel_rfl) ⟨⟨⟨0, rfl⟩, trivial⟩, ⟨⟨0, rfl⟩, trivial⟩, trivial⟩ (fun _ _ _ h => h) ?_
        refine VA.va (i := 3) (listed' := LB 8 15) rfl (op_indexAddr Try.underlying22 TI24 rfl rfl c1037 (lt_get c1037 hx1038) rfl (ltn rfl)) rfl (by kernel_rfl) (by kernel_rfl) (by kernel_rfl) (by kernel_rfl) ⟨⟨⟨0, rfl⟩, trivial⟩, ⟨⟨0, rfl⟩, trivial⟩, trivial⟩ (fun _ _ _ h => h) ?_
        refine VA.va (i := 4) (listed' := LB 8 31) rfl (op_load_row (o := 0) 0 (wrap64 ((IntKind.u64.wrap (wrap64 (i1014 + i1015))).fdiv (2 ^ min (1 : Int).toNat IntKind.u64.bits))).toNat 3 rfl rfl (get_map hx1038) TI24 rfl (fun h => absurd h (by decide)) (ltn rfl)) rfl (by kernel_rfl) (by kernel_rfl) (by kernel_rfl) (by kernel_rfl) ⟨⟨⟨0, rfl⟩, trivial⟩, ⟨⟨0, rfl⟩, trivial⟩, trivial⟩ (fun _ _ _ h => h) ?_
        refine VA.va (i := 5) (listed' := LB 8 63) rfl (op_load 0 3 rfl rfl TI24 rfl (fun h => absurd h (by decide)) (ltn rfl)) rfl (by kernel_rfl) (by kernel_rfl) (by kernel_rfl) (by kernel_rfl) ⟨⟨⟨0, rfl⟩, trivial⟩, ⟨⟨0, rfl⟩, trivial⟩, trivial⟩ (fun _ _ _ h => h) ?_
        refine VA.oneC (i := 6) (listed' := LB 8 127) (by kernel_rfl) rfl (o_call0 FO23 (timer_compare.ok k x1038.f0 x1038.f1 x1038.f2 a1_0 a1_1 a1_2 t1039 hA1040) rfl rfl (ltn rfl) (All_of .nil)) rfl (by kernel_rfl) ?_
        rintro _ _ _ ⟨rfl, rfl, rfl⟩
        refine ⟨⟨⟨⟨0, rfl⟩, trivial⟩, ⟨⟨0, rfl⟩, trivial⟩, trivial⟩, ?_⟩
        refine VA.va (i := 7) (listed' := LB 8 255) rfl (op_cmp rfl rfl (congrArg some hb1041) (ltn rfl)) rfl (by kernel_rfl) (by kernel_rfl) (by kernel_rfl) (by kernel_rfl) ⟨⟨⟨0, rfl⟩, trivial⟩, ⟨⟨0, rfl⟩, trivial⟩, trivial⟩ (fun _ _ _ h => h) ?_
        refine VA.done (by kernel_rfl) ?_
        exact VN.meet0  [0] [] trivial ⟨rfl, ⟨rfl, rfl, rfl, rfl, rfl, rfl, rfl, rfl, rfl, rfl, rfl, rfl, rfl, rfl, rfl, rfl, rfl, rfl, rfl, rfl, rfl, rfl, rfl, rfl, rfl, trivial⟩, ⟨⟨0, rfl⟩, trivial⟩, rfl, by decide, rfl, by decide⟩
      intro _
      by_cases c1042 : t1039 < 0
      · rw [if_pos c1042] at h
        obtain rfl : b1041 = true := hb1041.symm.trans (decide_eq_true c1042)
        refine VC.cond_t rfl ?_
        refine VC.region ?_
        refine VL.va (op_move rfl (ltn rfl)) rfl ?_
        refine VL.va (op_ari64 rfl rfl rfl (ltn rfl)) rfl ?_
        refine VL.va (op_assign rfl (ltn rfl)) rfl ?_
        refine VL.done ?_
        refine VN.block ?_
        refine VN.again [0] [] (ihl1 (wrap64 ((wrap64 ((IntKind.u64.wrap (wrap64 (i1014 + i1015))).fdiv (2 ^ min (1 : Int).toNat IntKind.u64.bits))) + 1)) i1015 h) ⟨rfl, ⟨rfl, rfl, rfl, rfl, rfl, rfl, rfl, rfl, trivial⟩, ⟨⟨0, rfl⟩, trivial⟩, rfl, by decide, rfl, by decide⟩
      · rw [if_neg c1042] at h
        obtain rfl : b1041 = false := hb1041.symm.trans (decide_eq_false c1042)
        refine VC.cond_f rfl ?_
        refine VC.region ?_
        refine VL.va (op_move rfl (ltn rfl)) rfl ?_
        refine VL.va (op_assign rfl (ltn rfl)) rfl ?_
        refine VL.done ?_
        refine VN.block ?_
        refine VN.again [0] [] (ihl1 i1014 (wrap64 ((IntKind.u64.wrap (wrap64 (i1014 + i1015))).fdiv (2 ^ min (1 : Int).toNat IntKind.u64.bits))) h) ⟨rfl, ⟨rfl, rfl, rfl, rfl, rfl, rfl, rfl, rfl, trivial⟩, ⟨⟨0, rfl⟩, trivial⟩, rfl, by decide, rfl, by decide⟩
    · rw [if_neg c1037] at h; cases h
  · rw [if_neg c1036] at h
    obtain rfl : b1035 = false := hb1035.symm.trans (decide_eq_false c1036)
    refine VC.cond_f rfl ?_
    refine VC.exit ?_
    refine VX.then ?_
    refine VX.then ?_
    refine VX.hit ?_
    refine VN.then ?_
    refine VC.letter (decide (i1014 < (l0.length : Int))) fun b1043 hb1043 => ?_
    by_cases c1044 : i1014 < (l0.length : Int)
    · rw [if_pos c1044] at h
      obtain rfl : b1043 = true := hb1043.symm.trans (decide_eq_true c1044)
      by_cases c1045 : 0 ≤ i1014
      · rw [if_pos c1045] at h
        replace h := Option.bind_eq_some_iff.1 h
        obtain ⟨x1046, hx1046, h⟩ := h
        replace h := Option.bind_eq_some_iff.1 h
        obtain ⟨t1047, hA1048, h⟩ := h
        refine VC.letter ((t1047 == 0)) fun b1049 hb1049 => ?_
        refine VC.open (m := l0.length) 0 lenm rfl (pos_get hx1046) ?_
        rintro ad976 n977 rfl
        refine VC.join0 (⟨49, [(6, .int .i64 i1014), (7, .bool b1049)], [], [], []⟩) (True) ?_ ?_
        · refine VC.draw ⟨0, [], [.row (.slice (some ad976) l0.length n977) 3 (l0.map enc23)], [(g969, 24, [.int .i64 a1_0, .int .i64 a1_1, .int .i64 a1_2])], []⟩ (by kernel_rfl) rfl (by kernel_rfl) (n := 16) (listed := LB 16 0) ?_
          refine VA.va (i := 0) (listed' := LB 16 1) rfl (op_move rfl (ltn rfl)) rfl (by kernel_rfl) (by kernel_rfl) (by kernel_rfl) (by kernel_rfl) ⟨⟨⟨0, rfl⟩, trivial⟩, ⟨⟨0, rfl⟩, trivial⟩, trivial⟩ (fun _ _ _ h => h) ?_
          refine VA.va (i := 1) (listed' := LB 16 3) rfl (op_move rfl (ltn rfl)) rfl (by kernel_rfl) (by kernel_rfl) (by kernel_rfl) (by kernel_rfl) ⟨⟨⟨0, rfl⟩, trivial⟩, ⟨⟨0, rfl⟩, trivial⟩, trivial⟩ (fun _ _ _ h => h) ?_
          refine VA.va (i := 2) (listed' := LB 16 7) rfl (op_move rfl (ltn rfl)) rfl (by kernel_rfl) (by kernel_rfl) (by kernel_rfl) (by kernel_rfl) ⟨⟨⟨0, rfl⟩, trivial⟩, ⟨⟨0, rfl⟩, trivial⟩, trivial⟩ (fun _ _ _ h => h) ?_
          refine VA.va (i := 3) (listed' := LB 16 15) rfl (op_cmp rfl rfl (congrArg some hb1043) (ltn rfl)) rfl (by kernel_rfl) (by kernel_rfl) (by kernel_rfl) (by kernel_rfl) ⟨⟨⟨0, rfl⟩, trivial⟩, ⟨⟨0, rfl⟩, trivial⟩, trivial⟩ (fun _ _ _ h => h) ?_
          refine VA.va (i := 4) (listed' := LB 16 31) rfl (op_move rfl (ltn rfl)) rfl (by kernel_rfl) (by kernel_rfl) (by kernel_rfl) (by kernel_rfl) ⟨⟨⟨0, rfl⟩, trivial⟩, ⟨⟨0, rfl⟩, trivial⟩, trivial⟩ (fun _ _ _ h => h) ?_
          refine VA.va (i := 5) (listed' := LB 16 63) rfl (op_move rfl (ltn rfl)) rfl (by kernel_rfl) (by kernel_rfl) (by kernel_rfl) (by kernel_rfl) ⟨⟨⟨0, rfl⟩, trivial⟩, ⟨⟨0, rfl⟩, trivial⟩, trivial⟩ (fun _ _ _ h => h) ?_
          refine VA.va (i := 6) (listed' := LB 16 127) rfl (op_move rfl (ltn rfl)) rfl (by kernel_rfl) (by kernel_rfl) (by kernel_rfl) (by kernel_rfl) ⟨⟨⟨0, rfl⟩, trivial⟩, ⟨⟨0, rfl⟩, trivial⟩, trivial⟩ (fun _ _ _ h => h) ?_
          refine VA.va (i := 7) (listed' := LB 16 255) rfl (op_move rfl (ltn rfl)) rfl (by kernel_rfl) (by kernel_rfl) (by kernel_rfl) (by kernel_rfl) ⟨⟨⟨0, rfl⟩, trivial⟩, ⟨⟨0, rfl⟩, trivial⟩, trivial⟩ (fun _ _ _ h => h) ?_
          refine VA.va (i := 8) (listed' := LB 16 511) rfl (op_indexAddr Try.underlying22 TI24 rfl rfl c1045 (lt_get c1045 hx1046) rfl (ltn rfl)) rfl (by kernel_rfl) (by kernel_rfl) (by kernel_rfl) (by kernel_rfl) ⟨⟨⟨0, rfl⟩, trivial⟩, ⟨⟨0, rfl⟩, trivial⟩, trivial⟩ (fun _ _ _ h => h) ?_
          refine VA.va (i := 9) (listed' := LB 16 1023) rfl (op_load_row (o := 0) 0 i1014.toNat 3 rfl rfl (get_map hx1046) TI24 rfl (fun h => absurd h (by decide)) (ltn rfl)) rfl (by kernel_rfl) (by kernel_rfl) (by kernel_rfl) (by kernel_rfl) ⟨⟨⟨0, rfl⟩, trivial⟩, ⟨⟨0, rfl⟩, trivial⟩, trivial⟩ (fun _ _ _ h => h) ?_
          refine VA.va (i := 10) (listed' := LB 16 2047) rfl (op_load 0 3 rfl rfl TI24 rfl (fun h => absurd h (by decide)) (ltn rfl)) rfl (by kernel_rfl) (by kernel_rfl) (by kernel_rfl) (by kernel_rfl) ⟨⟨⟨0, rfl⟩, trivial⟩, ⟨⟨0, rfl⟩, trivial⟩, trivial⟩ (fun _ _ _ h => h) ?_
          refine VA.oneC (i := 11) (listed' := LB 16 4095) (by kernel_rfl) rfl (o_call0 FO23 (timer_compare.ok k x1046.f0 x1046.f1 x1046.f2 a1_0 a1_1 a1_2 t1047 hA1048) rfl rfl (ltn rfl) (All_of .nil)) rfl (by kernel_rfl) ?_
          rintro _ _ _ ⟨rfl, rfl, rfl⟩
          refine ⟨⟨⟨⟨0, rfl⟩, trivial⟩, ⟨⟨0, rfl⟩, trivial⟩, trivial⟩, ?_⟩
          refine VA.va (i := 12) (listed' := LB 16 8191) rfl (op_cmp rfl rfl (congrArg some hb1049) (ltn rfl)) rfl (by kernel_rfl) (by kernel_rfl) (by kernel_rfl) (by kernel_rfl) ⟨⟨⟨0, rfl⟩, trivial⟩, ⟨⟨0, rfl⟩, trivial⟩, trivial⟩ (fun _ _ _ h => h) ?_
          refine VA.va (i := 13) (listed' := LB 16 16383) rfl (op_pick rfl rfl (ltn rfl)) rfl (by kernel_rfl) (by kernel_rfl) (by kernel_rfl) (by kernel_rfl) ⟨⟨⟨0, rfl⟩, trivial⟩, ⟨⟨0, rfl⟩, trivial⟩, trivial⟩ (fun _ _ _ h => h) ?_
          refine VA.va (i := 14) (listed' := LB 16 32767) rfl (op_assign rfl (ltn rfl)) rfl (by kernel_rfl) (by kernel_rfl) (by kernel_rfl) (by kernel_rfl) ⟨⟨⟨0, rfl⟩, trivial⟩, ⟨⟨0, rfl⟩, trivial⟩, trivial⟩ (fun _ _ _ h => h) ?_
          refine VA.va (i := 15) (listed' := LB 16 65535) rfl (op_assign rfl (ltn rfl)) rfl (by kernel_rfl) (by kernel_rfl) (by kernel_rfl) (by kernel_rfl) ⟨⟨⟨0, rfl⟩, trivial⟩, ⟨⟨0, rfl⟩, trivial⟩, trivial⟩ (fun _ _ _ h => h) ?_
          refine VA.done (by kernel_rfl) ?_
          exact VN.meet0  [] [] trivial ⟨rfl, ⟨rfl, rfl, trivial⟩, trivial, rfl, by decide, rfl, by decide⟩
        intro _
        refine VC.ret ?_
        simp only [Option.some.injEq, Prod.mk.injEq] at h
        obtain ⟨rfl, rfl⟩ := h
        subst hb1049
        exact VR.fn (rs := [.tmp 6, .tmp 7]) [] [] [] rfl (.tmp rfl (.tmp rfl .nil)) ⟨rfl, rfl, rfl⟩ trivial rfl (by decide)
      · rw [if_neg c1045] at h; cases h
    · rw [if_neg c1044] at h
      obtain rfl : b1043 = false := hb1043.symm.trans (decide_eq_false c1044)
      refine VC.join0 (⟨49, [(6, .int .i64 i1014), (7, .bool false)], [], [], []⟩) (True) ?_ ?_
      · refine VC.draw ⟨0, [], [], [], []⟩ (by kernel_rfl) rfl (by kernel_rfl) (n := 16) (listed := LB 16 0) ?_
        refine VA.va (i := 0) (listed' := LB 16 1) rfl (op_move rfl (ltn rfl)) rfl (by kernel_rfl) (by kernel_rfl) (by kernel_rfl) (by kernel_rfl) ⟨trivial, trivial, trivial⟩ (fun _ _ _ h => h) ?_
        refine VA.va (i := 1) (listed' := LB 16 3) rfl (op_move rfl (ltn rfl)) rfl (by kernel_rfl) (by kernel_rfl) (by kernel_rfl) (by kernel_rfl) ⟨trivial, trivial, trivial⟩ (fun _ _ _ h => h) ?_
        refine VA.va (i := 2) (listed' := LB 16 7) rfl (op_move rfl (ltn rfl)) rfl (by kernel_rfl) (by kernel_rfl) (by kernel_rfl) (by kernel_rfl) ⟨trivial, trivial, trivial⟩ (fun _ _ _ h => h) ?_
        refine VA.va (i := 3) (listed' := LB 16 15) rfl (op_cmp rfl rfl (congrArg some hb1043) (ltn rfl)) rfl (by kernel_rfl) (by kernel_rfl) (by kernel_rfl) (by kernel_rfl) ⟨trivial, trivial, trivial⟩ (fun _ _ _ h => h) ?_
        refine VA.va (i := 4) (listed' := LB 16 31) rfl (op_move rfl (ltn rfl)) rfl (by kernel_rfl) (by kernel_rfl) (by kernel_rfl) (by kernel_rfl) ⟨trivial, trivial, trivial⟩ (fun _ _ _ h => h) ?_
        refine VA.un (i := 5) (listed' := LB 16 63) rfl rfl rfl (ltn rfl) (by kernel_rfl) (by kernel_rfl) (by kernel_rfl) (by kernel_rfl) ⟨trivial, trivial, trivial⟩ (fun _ _ _ h => h) ?_
        refine VA.un (i := 6) (listed' := LB 16 127) rfl rfl rfl (ltn rfl) (by kernel_rfl) (by kernel_rfl) (by kernel_rfl) (by kernel_rfl) ⟨trivial, trivial, trivial⟩ (fun _ _ _ h => h) ?_
        refine VA.un (i := 7) (listed' := LB 16 255) rfl rfl rfl (ltn rfl) (by kernel_rfl) (by kernel_rfl) (by kernel_rfl) (by kernel_rfl) ⟨trivial, trivial, trivial⟩ (fun _ _ _ h => h) ?_
        refine VA.un (i := 8) (listed' := LB 16 511) rfl rfl rfl (ltn rfl) (by kernel_rfl) (by kernel_rfl) (by kernel_rfl) (by kernel_rfl) ⟨trivial, trivial, trivial⟩ (fun _ _ _ h => h) ?_
        refine VA.un (i := 9) (listed' := LB 16 1023) rfl rfl rfl (ltn rfl) (by kernel_rfl) (by kernel_rfl) (by kernel_rfl) (by kernel_rfl) ⟨trivial, trivial, trivial⟩ (fun _ _ _ h => h) ?_
        refine VA.un (i := 10) (listed' := LB 16 2047) rfl rfl rfl (ltn rfl) (by kernel_rfl) (by kernel_rfl) (by kernel_rfl) (by kernel_rfl) ⟨trivial, trivial, trivial⟩ (fun _ _ _ h => h) ?_
        refine VA.un (i := 11) (listed' := LB 16 4095) rfl rfl rfl (ltn rfl) (by kernel_rfl) (by kernel_rfl) (by kernel_rfl) (by kernel_rfl) ⟨trivial, trivial, trivial⟩ (fun _ _ _ h => h) ?_
        refine VA.un (i := 12) (listed' := LB 16 8191) rfl rfl rfl (ltn rfl) (by kernel_rfl) (by kernel_rfl) (by kernel_rfl) (by kernel_rfl) ⟨trivial, trivial, trivial⟩ (fun _ _ _ h => h) ?_
        refine VA.va (i := 13) (listed' := LB 16 16383) rfl (op_pick rfl rfl (ltn rfl)) rfl (by kernel_rfl) (by kernel_rfl) (by kernel_rfl) (by kernel_rfl) ⟨trivial, trivial, trivial⟩ (fun _ _ _ h => h) ?_
        refine VA.va (i := 14) (listed' := LB 16 32767) rfl (op_assign rfl (ltn rfl)) rfl (by kernel_rfl) (by kernel_rfl) (by kernel_rfl) (by kernel_rfl) ⟨trivial, trivial, trivial⟩ (fun _ _ _ h => h) ?_
        refine VA.va (i := 15) (listed' := LB 16 65535) rfl (op_assign rfl (ltn rfl)) rfl (by kernel_rfl) (by kernel_rfl) (by kernel_rfl) (by kernel_rfl) ⟨trivial, trivial, trivial⟩ (fun _ _ _ h => h) ?_
        refine VA.done (by kernel_rfl) ?_
        exact VN.meet0  [] [] trivial ⟨rfl, ⟨rfl, rfl, trivial⟩, trivial, rfl, by decide, rfl, by decide⟩
      intro _
      refine VC.ret ?_
      simp only [Option.some.injEq, Prod.mk.injEq] at h
      obtain ⟨rfl, rfl⟩ := h
      exact VR.fn (rs := [.tmp 6, .tmp 7]) [] [] [] rfl (.tmp rfl (.tmp rfl .nil)) ⟨rfl, rfl, rfl⟩ trivial rfl (by decide)

end Go.Proofs.Ytmcfgahjchkgaaa.PTimerOrders
