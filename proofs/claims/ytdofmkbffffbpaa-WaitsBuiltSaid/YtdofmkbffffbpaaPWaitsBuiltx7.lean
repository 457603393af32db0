/- Written by a program of this repo: what the program's functions do, each as a Lean function, shown of the loaded code; or a statement's row over that; no condition of its own. -/
import Derived.Test.YtdofmkbffffbpaaPWaitsBuiltx6
namespace Go.Proofs.Ytdofmkbffffbpaa.PWaitsBuilt
open Go Go.RowKit Go.Proofs.YtdofmkbffffbpaaV
set_option linter.unusedVariables false
set_option linter.unusedSimpArgs false

set_option maxHeartbeats 4000000 in
set_option maxRecDepth 100000 in
theorem tarrylaw09_WaitsBuilt.ok (k : Nat) (l0 : List S25) (a1 : Int) (a2_0 : ByteArray) (a2_1 : Int) (a2_2 : Int) (a2_3 : Int) (v0 : Value) (r1 : Bool) (h : tarrylaw09_WaitsBuilt.f k l0 a1 a2_0 a2_1 a2_2 a2_3 = some r1) :
    VCalls Try.prog 5 [v0, .int .i64 a1, .agg #[.string a2_0, .int .i64 a2_1, .int .i64 a2_2, .int .i64 a2_3]] [.row v0 4 (l0.map enc25)] (fun v G own => v = .bool r1 ∧ G = [] ∧ own = []) := by
  refine VCalls.intro Try.func5 rfl (len rfl) fun E hC hW hD hU => ?_
  unfold tarrylaw09_WaitsBuilt.f at h
  refine VC.seq ?_
  refine VC.region ?_
  refine VL.sG (o_box rfl (.agg (.of rfl)) (ltn rfl)) rfl ?_
  intro g2
  refine VL.va (op_assign rfl (ltn rfl)) rfl ?_
  refine VL.done ?_
  refine VN.then ?_
  replace h := Option.bind_eq_some_iff.1 h
  obtain ⟨r134, hA135, h⟩ := h
  replace h := Option.bind_eq_some_iff.1 h
  obtain ⟨⟨t138, t139, t140, t141⟩, hA142, h⟩ := h
  dsimp only at h
  refine VC.join1 (fun (v137 : Value) => ⟨108, [(0, v137), (1, .int .i64 a1), (5, .pointer (some ⟨g2, 0, none⟩)), (6, .bool false)], [], [(g2, 26, [.string t138, .int .i64 t139, .int .i64 t140, .int .i64 t141])], [(v137, 26, 4, r134.map enc25)]⟩) (fun (v137 : Value) => True) ?_ ?_
  · refine VC.drawB ⟨0, [], [], [], []⟩ [5] ⟨0, [], [], [(g2, 26, [.string a2_0, .int .i64 a2_1, .int .i64 a2_2, .int .i64 a2_3])], []⟩ (by kernel_rfl) rfl (by kernel_rfl) (n := 6) (listed := LB 6 0) ?_
    refine VB.more ⟨0, [], [.row v0 4 (l0.map enc25)], [], []⟩ ⟨trivial, trivial, trivial⟩ ?_
    refine VB.va (i := 0) (listed' := LB 6 1) rfl (op_move rfl (ltn rfl)) rfl (by kernel_rfl) (by kernel_rfl) (by kernel_rfl) (by kernel_rfl) (by decide) (PartP.on ⟨⟨⟨0, rfl⟩, trivial⟩, trivial, trivial⟩ ⟨trivial, ⟨⟨0, rfl⟩, trivial⟩, trivial⟩) (fun _ _ _ h => h) ?_
    refine VB.vb (i := 2) (listed' := LB 6 5) rfl (op_load 0 4 rfl rfl TI26 rfl (fun h => absurd h (by decide)) (ltn rfl)) rfl (by kernel_rfl) (by kernel_rfl) (by kernel_rfl) (by kernel_rfl) (by kernel_rfl) (by kernel_rfl) (PartP.on ⟨⟨⟨0, rfl⟩, trivial⟩, trivial, trivial⟩ ⟨trivial, ⟨⟨0, rfl⟩, trivial⟩, trivial⟩) (fun _ _ _ h => h) ?_
    refine VB.oneC (i := 1) (listed' := LB 6 7) (by kernel_rfl) rfl (o_call0 FO7 (tarrylaw09_few.ok k l0 v0 r134 hA135) rfl rfl (ltn rfl) (All_of (.cons (List.mem_of_getElem? (i := 0) rfl) .nil))) rfl (by kernel_rfl) ?_
    rintro v137 _ _ ⟨_, rfl, rfl, rfl⟩
    refine ⟨(PartP.on ⟨⟨⟨0, rfl⟩, trivial⟩, trivial, trivial⟩ ⟨trivial, ⟨⟨0, rfl⟩, trivial⟩, trivial⟩), ?_⟩
    refine VB.oneC (i := 3) (listed' := LB 6 15) (by kernel_rfl) rfl (o_call0 FO8 (tarrylaw09_cut.ok a2_0 a2_1 a2_2 a2_3 t138 t139 t140 t141 hA142) rfl rfl (ltn rfl) (All_of .nil)) rfl (by kernel_rfl) ?_
    rintro _ _ _ ⟨rfl, rfl, rfl⟩
    refine ⟨(PartP.on ⟨⟨⟨0, rfl⟩, trivial⟩, trivial, trivial⟩ ⟨trivial, ⟨⟨0, rfl⟩, trivial⟩, trivial⟩), ?_⟩
    refine VB.more ⟨0, [], [.row v0 4 (l0.map enc25)], [], [(v137, 26, 4, r134.map enc25)]⟩ ⟨⟨⟨0, rfl⟩, trivial⟩, trivial, trivial⟩ ?_
    refine VB.va (i := 4) (listed' := LB 6 31) rfl (op_assign rfl (ltn rfl)) rfl (by kernel_rfl) (by kernel_rfl) (by kernel_rfl) (by kernel_rfl) (by decide) (PartP.on ⟨⟨⟨0, rfl⟩, trivial⟩, trivial, ⟨⟨0, rfl⟩, trivial⟩⟩ ⟨trivial, ⟨⟨0, rfl⟩, trivial⟩, trivial⟩) (fun _ _ _ h => h) ?_
    refine VB.one1 (i := 5) (listed' := LB 6 63) (by kernel_rfl) rfl (o_store 0 4 rfl rfl rfl TI26 (.agg (.of rfl)) rfl (len rfl)) rfl (by kernel_rfl) (PartP.off (by kernel_rfl) ⟨⟨⟨0, rfl⟩, trivial⟩, trivial, ⟨⟨0, rfl⟩, trivial⟩⟩) ?_
    refine VB.done (by kernel_rfl) ?_
    exact VN.meet1 v137 [0] [0] trivial ⟨rfl, ⟨rfl, rfl, rfl, rfl, trivial⟩, trivial, rfl, by decide, rfl, by decide⟩
  intro v137 _
  refine VC.seq ?_
  refine VC.region ?_
  refine VL.va (op_move rfl (ltn rfl)) rfl ?_
  replace h := Option.bind_eq_some_iff.1 h
  obtain ⟨⟨r2087, t2088⟩, hA2089, h⟩ := h
  dsimp only at h
  refine VL.sC (o_call_b0 FO9 (waits_Make.ok k r134 v137 r2087 t2088 hA2089) rfl rfl (ltn rfl) (All_of (.cons (.inr (.inl ⟨_, List.mem_of_getElem? (i := 0) rfl, rfl⟩)) .nil)) (by rintro _ _ _ ⟨v2091, rfl, rfl, rfl⟩; rfl)) rfl ?_
  rintro _ _ _ ⟨v2091, rfl, rfl, rfl⟩
  refine VL.va (op_move rfl (ltn rfl)) rfl ?_
  refine VL.va (op_extract rfl rfl (ltn rfl)) rfl ?_
  refine VL.va (op_extract rfl rfl (ltn rfl)) rfl ?_
  refine VL.va (op_assign rfl (ltn rfl)) rfl ?_
  refine VL.va (op_assign rfl (ltn rfl)) rfl ?_
  refine VL.done ?_
  refine VN.then ?_
  refine VC.seq ?_
  refine VC.join1 (fun (q3103 : Bool) => ⟨108, [(0, v137), (1, .int .i64 a1), (5, .pointer (some ⟨g2, 0, none⟩)), (6, .bool false), (7, v2091), (33, .bool q3103)], [], [(g2, 26, [.string t138, .int .i64 t139, .int .i64 t140, .int .i64 t141])], [(v137, 26, 4, r134.map enc25), (v2091, 26, 4, r2087.map enc25)]⟩) (fun (q3103 : Bool) => tarrylaw09_WaitsBuilt.j2 k a1 r134 r2087 t138 t139 t140 t141 q3103 = some r1) ?_ ?_
  · refine VC.region ?_
    refine VL.va (op_move rfl (ltn rfl)) rfl ?_
    refine VL.letter ((t2088 != 0)) fun b3100 hb3100 => ?_
    refine VL.va (op_cmp rfl rfl (congrArg some hb3100) (ltn rfl)) rfl ?_
    refine VL.va (op_move rfl (ltn rfl)) rfl ?_
    by_cases c3101 : t2088 = 0
    · rw [if_pos c3101] at h
      obtain rfl : b3100 = false := hb3100.symm.trans (bne_eq_false_iff_eq.2 c3101)
      refine VL.va (op_move rfl (ltn rfl)) rfl ?_
      refine VL.va (op_len_own (m := r134.length) 1 lenm Try.underlying22 rfl rfl (ltn rfl)) rfl ?_
      refine VL.letter (((r134.length : Int) == 0)) fun b3102 hb3102 => ?_
      refine VL.va (op_cmp rfl rfl (congrArg some hb3102) (ltn rfl)) rfl ?_
      refine VL.va (op_pick rfl rfl (ltn rfl)) rfl ?_
      refine VL.done ?_
      subst hb3102
      refine VN.meet1 ((r134.length : Int) == 0) [0] [1, 0] h ⟨rfl, ⟨rfl, rfl, rfl, rfl, rfl, rfl, trivial⟩, trivial, rfl, by decide, rfl, by decide⟩
    · rw [if_neg c3101] at h
      obtain rfl : b3100 = true := hb3100.symm.trans (bne_iff_ne.2 c3101)
      refine VL.un rfl rfl (ltn rfl) ?_
      refine VL.un rfl rfl (ltn rfl) ?_
      refine VL.un rfl rfl (ltn rfl) ?_
      refine VL.va (op_pick rfl rfl (ltn rfl)) rfl ?_
      refine VL.done ?_
      refine VN.meet1 true [0] [1, 0] h ⟨rfl, ⟨rfl, rfl, rfl, rfl, rfl, rfl, trivial⟩, trivial, rfl, by decide, rfl, by decide⟩
  clear h
  intro q3103 h
  unfold tarrylaw09_WaitsBuilt.j2 at h
  by_cases c3104 : q3103 = true
  · rw [if_pos c3104] at h
    obtain rfl := c3104
    refine VC.cond_t rfl ?_
    refine VC.seq ?_
    refine VC.region ?_
    replace h := Option.bind_eq_some_iff.1 h
    obtain ⟨t3109, hA3110, h⟩ := h
    refine VL.sC (o_call0 FO13 (tarrylaw09_alive.ok k t3109 hA3110) rfl rfl (ltn rfl) (All_of .nil)) rfl ?_
    rintro _ _ _ ⟨rfl, rfl, rfl⟩
    refine VL.va (op_move rfl (ltn rfl)) rfl ?_
    by_cases c3111 : t3109 = true
    · rw [if_pos c3111] at h
      obtain rfl := c3111
      refine VL.va (op_move rfl (ltn rfl)) rfl ?_
      refine VL.va (op_len_own (m := r2087.length) 1 lenm Try.underlying22 rfl rfl (ltn rfl)) rfl ?_
      refine VL.letter (((r2087.length : Int) == 0)) fun b3112 hb3112 => ?_
      refine VL.va (op_cmp rfl rfl (congrArg some hb3112) (ltn rfl)) rfl ?_
      refine VL.va (op_pick rfl rfl (ltn rfl)) rfl ?_
      refine VL.va (op_assign rfl (ltn rfl)) rfl ?_
      refine VL.done ?_
      refine VN.then ?_
      refine VC.ret ?_
      refine VR.then ?_
      obtain rfl := Option.some.inj h
      subst hb3112
      exact VR.fn (rs := [.tmp 6]) [] [] [] rfl (.tmp rfl .nil) ⟨rfl, rfl, rfl⟩ trivial rfl (by decide)
    · rw [if_neg c3111] at h
      obtain rfl := Bool.eq_false_iff.2 c3111
      refine VL.un rfl rfl (ltn rfl) ?_
      refine VL.un rfl rfl (ltn rfl) ?_
      refine VL.un rfl rfl (ltn rfl) ?_
      refine VL.va (op_pick rfl rfl (ltn rfl)) rfl ?_
      refine VL.va (op_assign rfl (ltn rfl)) rfl ?_
      refine VL.done ?_
      refine VN.then ?_
      refine VC.ret ?_
      refine VR.then ?_
      cases h
  · rw [if_neg c3104] at h
    obtain rfl := Bool.eq_false_iff.2 c3104
    refine VC.cond_f rfl ?_
    refine VC.skip ?_
    refine VN.then ?_
    refine VC.seq ?_
    refine VC.region ?_
    refine VL.va (op_move rfl (ltn rfl)) rfl ?_
    refine VL.va (op_move rfl (ltn rfl)) rfl ?_
    refine VL.va (op_len_own (m := r134.length) 0 lenm Try.underlying22 rfl rfl (ltn rfl)) rfl ?_
    by_cases c3113 : (r134.length : Int) ≠ 0
    · rw [if_pos c3113] at h
      refine VL.va (op_rem rfl rfl c3113 rfl (ltn rfl)) rfl ?_
      refine VL.va (op_move rfl (ltn rfl)) rfl ?_
      refine VL.va (op_len_own (m := r134.length) 0 lenm Try.underlying22 rfl rfl (ltn rfl)) rfl ?_
      refine VL.va (op_ari64 rfl rfl rfl (ltn rfl)) rfl ?_
      refine VL.va (op_move rfl (ltn rfl)) rfl ?_
      refine VL.va (op_len_own (m := r134.length) 0 lenm Try.underlying22 rfl rfl (ltn rfl)) rfl ?_
      refine VL.va (op_rem rfl rfl c3113 rfl (ltn rfl)) rfl ?_
      refine VL.va (op_assign rfl (ltn rfl)) rfl ?_
      refine VL.done ?_
      refine VN.then ?_
      refine VC.seq ?_
      refine VC.region ?_
      refine VL.va (op_assign rfl (ltn rfl)) rfl ?_
      refine VL.done ?_
      refine VN.then ?_
      refine VC.seq ?_
      by_cases c3228 : 0 ≤ (wrap64 ((a1.tmod (r134.length : Int)) + (r134.length : Int))).tmod (r134.length : Int)
      · rw [if_pos c3228] at h
        by_cases c3229 : ((wrap64 ((a1.tmod (r134.length : Int)) + (r134.length : Int))).tmod (r134.length : Int)) ≤ (r134.length : Int)
        · rw [if_pos c3229] at h
          by_cases c3232 : (([] : List S25).length + ((r134.take r134.length).drop (((wrap64 ((a1.tmod (r134.length : Int)) + (r134.length : Int))).tmod (r134.length : Int)).toNat)).length) * 40 ≤ 140737488355328
          · rw [if_pos c3232] at h
            by_cases c3237 : ((([] : List S25) ++ ((r134.take r134.length).drop (((wrap64 ((a1.tmod (r134.length : Int)) + (r134.length : Int))).tmod (r134.length : Int)).toNat))).length + ((r134.take (((wrap64 ((a1.tmod (r134.length : Int)) + (r134.length : Int))).tmod (r134.length : Int)).toNat)).drop 0).length) * 40 ≤ 140737488355328
            · rw [if_pos c3237] at h
              refine VC.freezeRow' 0 rfl ?_
              refine VC.join1 (fun (v3238 : Value) => ⟨108, [(5, .pointer (some ⟨g2, 0, none⟩)), (6, .bool false), (7, v2091), (9, .slice none 0 0), (58, v3238), (59, .int .i64 (((([] : List S25) ++ ((r134.take r134.length).drop (((wrap64 ((a1.tmod (r134.length : Int)) + (r134.length : Int))).tmod (r134.length : Int)).toNat))) ++ ((r134.take (((wrap64 ((a1.tmod (r134.length : Int)) + (r134.length : Int))).tmod (r134.length : Int)).toNat)).drop 0)).length : Int)), (60, .int .i64 0)], [], [(g2, 26, [.string t138, .int .i64 t139, .int .i64 t140, .int .i64 t141])], [(v3238, 26, 4, ((([] : List S25) ++ ((r134.take r134.length).drop (((wrap64 ((a1.tmod (r134.length : Int)) + (r134.length : Int))).tmod (r134.length : Int)).toNat))) ++ ((r134.take (((wrap64 ((a1.tmod (r134.length : Int)) + (r134.length : Int))).tmod (r134.length : Int)).toNat)).drop 0)).map enc25), (v2091, 26, 4, r2087.map enc25)]⟩) (fun (v3238 : Value) => True) ?_ ?_
              · refine VC.draw ⟨0, [], [.row v137 4 (r134.map enc25)], [], []⟩ (by kernel_rfl) rfl (by kernel_rfl) (n := 11) (listed := LB 11 0) ?_
                refine VA.va (i := 1) (listed' := LB 11 2) rfl (op_move rfl (ltn rfl)) rfl (by kernel_rfl) (by kernel_rfl) (by kernel_rfl) (by kernel_rfl) ⟨⟨⟨0, rfl⟩, trivial⟩, trivial, trivial⟩ (fun _ _ _ h => h) ?_
                refine VA.va (i := 2) (listed' := LB 11 6) rfl (op_move rfl (ltn rfl)) rfl (by kernel_rfl) (by kernel_rfl) (by kernel_rfl) (by kernel_rfl) ⟨⟨⟨0, rfl⟩, trivial⟩, trivial, trivial⟩ (fun _ _ _ h => h) ?_
                refine VA.cut (i := 3) (listed' := LB 11 14) rfl (m := r134.length) 0 (((wrap64 ((a1.tmod (r134.length : Int)) + (r134.length : Int))).tmod (r134.length : Int)).toNat) r134.length lenm cutm Try.underlying22 TI26 rfl rfl ⟨⟨_, _, rfl, c3228, rfl⟩, rfl, by omega, by omega⟩ (ltn rfl) rfl (by kernel_rfl) (by kernel_rfl) (by kernel_rfl) (by kernel_rfl) ⟨⟨⟨0, rfl⟩, trivial⟩, trivial, trivial⟩ (fun _ _ _ _ h => h) ?_
                intro v3231
                refine VA.va (i := 5) (listed' := LB 11 46) rfl (op_move rfl (ltn rfl)) rfl (by kernel_rfl) (by kernel_rfl) (by kernel_rfl) (by kernel_rfl) ⟨⟨⟨1, rfl⟩, trivial⟩, trivial, trivial⟩ (fun _ _ _ h => h) ?_
                refine VA.va (i := 6) (listed' := LB 11 110) rfl (op_move rfl (ltn rfl)) rfl (by kernel_rfl) (by kernel_rfl) (by kernel_rfl) (by kernel_rfl) ⟨⟨⟨1, rfl⟩, trivial⟩, trivial, trivial⟩ (fun _ _ _ h => h) ?_
                refine VA.cut (i := 7) (listed' := LB 11 238) rfl (m := r134.length) 0 0 (((wrap64 ((a1.tmod (r134.length : Int)) + (r134.length : Int))).tmod (r134.length : Int)).toNat) lenm cutm Try.underlying22 TI26 rfl rfl ⟨rfl, ⟨_, _, rfl, c3228, rfl⟩, by omega, by omega⟩ (ltn rfl) rfl (by kernel_rfl) (by kernel_rfl) (by kernel_rfl) (by kernel_rfl) ⟨⟨⟨1, rfl⟩, trivial⟩, trivial, trivial⟩ (fun _ _ _ _ h => h) ?_
                intro v3236
                refine VA.va (i := 10) (listed' := LB 11 1262) rfl (op_move rfl (ltn rfl)) rfl (by kernel_rfl) (by kernel_rfl) (by kernel_rfl) (by kernel_rfl) ⟨⟨⟨2, rfl⟩, trivial⟩, trivial, trivial⟩ (fun _ _ _ h => h) ?_
                refine VA.oneG (i := 0) (listed' := LB 11 1263) (by kernel_rfl) rfl (o_buildSlice (vals := []) (cells := #[]) (es := List.map enc25 ([] : List S25)) Try.underlying22 TI26 Z26 rfl (by decide) (by decide) (by kernel_rfl) (by kernel_rfl) rfl (flat_map enc25_ok _) (ltn rfl)) rfl (by kernel_rfl) (fun _ => ⟨⟨⟨2, rfl⟩, trivial⟩, trivial, trivial⟩) ?_
                intro v3227
                refine VA.oneG (i := 4) (listed' := LB 11 1279) (by kernel_rfl) rfl (o_append 0 appm Try.underlying22 EI26 rfl rfl rfl (.inl ⟨1, rfl⟩) (bndm c3232) (ltn rfl)) rfl (by kernel_rfl) (fun _ => ⟨⟨⟨2, rfl⟩, trivial⟩, trivial, trivial⟩) ?_
                intro v3233
                refine VA.oneG (i := 8) (listed' := LB 11 1535) (by kernel_rfl) rfl (o_append 0 appm Try.underlying22 EI26 rfl rfl rfl (.inl ⟨0, rfl⟩) (bndm c3237) (ltn rfl)) rfl (by kernel_rfl) (fun _ => ⟨⟨⟨2, rfl⟩, trivial⟩, trivial, trivial⟩) ?_
                intro v3238
                refine VA.more ⟨0, [], [.row v137 4 (r134.map enc25)], [], [(v3238, 26, 4, ((([] : List S25) ++ ((r134.take r134.length).drop (((wrap64 ((a1.tmod (r134.length : Int)) + (r134.length : Int))).tmod (r134.length : Int)).toNat))) ++ ((r134.take (((wrap64 ((a1.tmod (r134.length : Int)) + (r134.length : Int))).tmod (r134.length : Int)).toNat)).drop 0)).map enc25)]⟩ ⟨⟨⟨0, rfl⟩, trivial⟩, trivial, trivial⟩ ?_
                refine VA.va (i := 9) (listed' := LB 11 2047) rfl (op_len_own (m := ((([] : List S25) ++ ((r134.take r134.length).drop (((wrap64 ((a1.tmod (r134.length : Int)) + (r134.length : Int))).tmod (r134.length : Int)).toNat))) ++ ((r134.take (((wrap64 ((a1.tmod (r134.length : Int)) + (r134.length : Int))).tmod (r134.length : Int)).toNat)).drop 0)).length) 0 lenm Try.underlying22 rfl rfl (ltn rfl)) rfl (by kernel_rfl) (by kernel_rfl) (by kernel_rfl) (by kernel_rfl) ⟨⟨⟨2, rfl⟩, trivial⟩, trivial, ⟨⟨0, rfl⟩, trivial⟩⟩ (fun _ _ _ h => h) ?_
                refine VA.done (by kernel_rfl) ?_
                exact VN.meet1 v3238 [0] [0, 1] trivial ⟨rfl, ⟨rfl, rfl, rfl, rfl, rfl, rfl, rfl, trivial⟩, trivial, rfl, by decide, rfl, by decide⟩
              intro v3238 _
              refine VC.block ?_
              refine VC.nilRow' 26 4 ?_
              refine VC.loop3 (fun (v3272 : Value) (l3273 : List S25) (i3275 : Int) => ⟨108, [(5, .pointer (some ⟨g2, 0, none⟩)), (6, .bool false), (7, v2091), (9, v3272), (58, v3238), (59, .int .i64 (((([] : List S25) ++ ((r134.take r134.length).drop (((wrap64 ((a1.tmod (r134.length : Int)) + (r134.length : Int))).tmod (r134.length : Int)).toNat))) ++ ((r134.take (((wrap64 ((a1.tmod (r134.length : Int)) + (r134.length : Int))).tmod (r134.length : Int)).toNat)).drop 0)).length : Int)), (60, .int .i64 i3275)], [], [(g2, 26, [.string t138, .int .i64 t139, .int .i64 t140, .int .i64 t141])], [(v3272, 26, 4, l3273.map enc25), (v2091, 26, 4, r2087.map enc25), (v3238, 26, 4, ((([] : List S25) ++ ((r134.take r134.length).drop (((wrap64 ((a1.tmod (r134.length : Int)) + (r134.length : Int))).tmod (r134.length : Int)).toNat))) ++ ((r134.take (((wrap64 ((a1.tmod (r134.length : Int)) + (r134.length : Int))).tmod (r134.length : Int)).toNat)).drop 0)).map enc25)]⟩) (fun (ml4 : Nat) (v3272 : Value) (l3273 : List S25) (i3275 : Int) => tarrylaw09_WaitsBuilt.l4 k a1 r134 r2087 t138 t139 t140 t141 ml4 l3273 i3275 = some r1) k (.slice none 0 0) ([] : List S25) 0 [0] [0, 2, 1] h ⟨rfl, ⟨rfl, rfl, rfl, rfl, rfl, rfl, rfl, trivial⟩, trivial, rfl, by decide, rfl, by decide⟩ (by intros; simp [tarrylaw09_WaitsBuilt.l4]) ?_
              clear h
              intro ml4 ihl4 v3272 l3273 i3275 h
              simp only [tarrylaw09_WaitsBuilt.l4] at h
              refine VC.seq ?_
              refine VC.region ?_
              refine VL.letter (decide (i3275 < (((([] : List S25) ++ ((r134.take r134.length).drop (((wrap64 ((a1.tmod (r134.length : Int)) + (r134.length : Int))).tmod (r134.length : Int)).toNat))) ++ ((r134.take (((wrap64 ((a1.tmod (r134.length : Int)) + (r134.length : Int))).tmod (r134.length : Int)).toNat)).drop 0)).length : Int))) fun b3307 hb3307 => ?_
              refine VL.va (op_cmp rfl rfl (congrArg some hb3307) (ltn rfl)) rfl ?_
              refine VL.done ?_
              refine VN.then ?_
              refine VC.seq ?_
              by_cases c3357 : i3275 < (((([] : List S25) ++ ((r134.take r134.length).drop (((wrap64 ((a1.tmod (r134.length : Int)) + (r134.length : Int))).tmod (r134.length : Int)).toNat))) ++ ((r134.take (((wrap64 ((a1.tmod (r134.length : Int)) + (r134.length : Int))).tmod (r134.length : Int)).toNat)).drop 0)).length : Int)
              · rw [if_pos c3357] at h
                obtain rfl : b3307 = true := hb3307.symm.trans (decide_eq_true c3357)
                refine VC.cond_t rfl ?_
                refine VC.skip ?_
                refine VN.then ?_
                refine VC.seq ?_
                refine VC.block ?_
                refine VC.seq ?_
                refine VC.region ?_
                by_cases c3372 : 0 ≤ i3275
                · rw [if_pos c3372] at h
                  replace h := Option.bind_eq_some_iff.1 h
                  obtain ⟨x3373, hx3373, h⟩ := h
                  refine VL.openR (m := ((([] : List S25) ++ ((r134.take r134.length).drop (((wrap64 ((a1.tmod (r134.length : Int)) + (r134.length : Int))).tmod (r134.length : Int)).toNat))) ++ ((r134.take (((wrap64 ((a1.tmod (r134.length : Int)) + (r134.length : Int))).tmod (r134.length : Int)).toNat)).drop 0)).length) 2 lenm rfl (pos_get hx3373) ?_
                  rintro g3374 n3375 rfl
                  refine VL.va (op_indexAddr Try.underlying22 TI26 rfl rfl c3372 (lt_get c3372 hx3373) (add_zero_at _ _) (ltn rfl)) rfl ?_
                  refine VL.va (op_load_own (sz := 4) (o := 0) 2 i3275.toNat 4 rfl rfl (get_map hx3373) TI26 rfl (fun h => absurd h (by decide)) (ltn rfl)) rfl ?_
                  refine VL.sG (o_alloc Z26 ZL26 (ltn rfl)) rfl ?_
                  intro g3376
                  refine VL.step1 (o_store 0 4 rfl rfl rfl TI26 (.agg (.of rfl)) rfl (len rfl)) rfl ?_
                  refine VL.done ?_
                  refine VN.then ?_
                  refine VC.seq ?_
                  refine VC.region ?_
                  refine VL.va (op_move rfl (ltn rfl)) rfl ?_
                  refine VL.va (op_load 0 4 rfl rfl TI26 rfl (fun h => absurd h (by decide)) (ltn rfl)) rfl ?_
                  replace h := Option.bind_eq_some_iff.1 h
                  obtain ⟨⟨r3377, t3378⟩, hA3379, h⟩ := h
                  dsimp only at h
                  refine VL.sC (o_call_b0 FO10 (waits_Put.ok k l3273 x3373.f0 x3373.f1 x3373.f2 x3373.f3 v3272 r3377 t3378 hA3379) rfl rfl (ltn rfl) (All_of (.cons (.inr (.inl ⟨_, List.mem_of_getElem? (i := 0) rfl, rfl⟩)) .nil)) (by rintro _ _ _ ⟨v3381, rfl, rfl, rfl⟩; rfl)) rfl ?_
                  rintro _ _ _ ⟨v3381, rfl, rfl, rfl⟩
                  refine VL.va (op_move rfl (ltn rfl)) rfl ?_
                  refine VL.va (op_extract rfl rfl (ltn rfl)) rfl ?_
                  refine VL.va (op_extract rfl rfl (ltn rfl)) rfl ?_
                  refine VL.va (op_assign rfl (ltn rfl)) rfl ?_
                  refine VL.va (op_assign rfl (ltn rfl)) rfl ?_
                  refine VL.done ?_
                  refine VN.then ?_
                  refine VC.seq ?_
                  refine VC.seq ?_
                  refine VC.region ?_
                  refine VL.va (op_move rfl (ltn rfl)) rfl ?_
                  refine VL.letter ((t3378 != 0)) fun b3384 hb3384 => ?_
                  refine VL.va (op_cmp rfl rfl (congrArg some hb3384) (ltn rfl)) rfl ?_
                  refine VL.done ?_
                  refine VN.then ?_
                  by_cases c3385 : t3378 = 0
                  · rw [if_pos c3385] at h
                    obtain rfl : b3384 = false := hb3384.symm.trans (bne_eq_false_iff_eq.2 c3385)
                    refine VC.cond_f rfl ?_
                    refine VC.skip ?_
                    refine VN.then ?_
                    refine VC.region ?_
                    refine VL.va (op_move rfl (ltn rfl)) rfl ?_
                    refine VL.va (op_assign rfl (ltn rfl)) rfl ?_
                    refine VL.done ?_
                    refine VN.block ?_
                    refine VN.then ?_
                    refine VC.region ?_
                    refine VL.va (op_ari64 rfl rfl rfl (ltn rfl)) rfl ?_
                    refine VL.va (op_move rfl (ltn rfl)) rfl ?_
                    refine VL.done ?_
                    refine VN.again [1] [0, 2, 3] (ihl4 v3381 r3377 (wrap64 (i3275 + 1)) h) ⟨rfl, ⟨rfl, rfl, rfl, rfl, rfl, rfl, rfl, trivial⟩, trivial, rfl, by decide, rfl, by decide⟩
                  · rw [if_neg c3385] at h
                    obtain rfl : b3384 = true := hb3384.symm.trans (bne_iff_ne.2 c3385)
                    refine VC.cond_t rfl ?_
                    refine VC.seq ?_
                    refine VC.region ?_
                    refine VL.va (op_assign rfl (ltn rfl)) rfl ?_
                    refine VL.done ?_
                    refine VN.then ?_
                    refine VC.ret ?_
                    refine VR.then ?_
                    refine VR.block ?_
                    refine VR.then ?_
                    refine VR.then ?_
                    refine VR.block ?_
                    refine VR.then ?_
                    cases h
                · rw [if_neg c3372] at h; cases h
              · rw [if_neg c3357] at h
                obtain rfl : b3307 = false := hb3307.symm.trans (decide_eq_false c3357)
                refine VC.cond_f rfl ?_
                refine VC.exit ?_
                refine VX.then ?_
                refine VX.then ?_
                refine VX.hit ?_
                refine VN.then ?_
                refine VC.seq ?_
                refine VC.seq ?_
                refine VC.region ?_
                refine VL.va (op_move rfl (ltn rfl)) rfl ?_
                refine VL.va (op_move rfl (ltn rfl)) rfl ?_
                replace h := Option.bind_eq_some_iff.1 h
                obtain ⟨t3404, hA3405, h⟩ := h
                refine VL.sC (o_call_b0 FO15 (tarryref09_Same.ok k l3273 r2087 v3272 v2091 t3404 hA3405) rfl rfl (ltn rfl) (All_of (.cons (.inr (.inl ⟨_, List.mem_of_getElem? (i := 0) rfl, rfl⟩)) (.cons (.inr (.inl ⟨_, List.mem_of_getElem? (i := 1) rfl, rfl⟩)) .nil))) (by rintro _ _ _ ⟨rfl, rfl, rfl⟩; rfl)) rfl ?_
                rintro _ _ _ ⟨rfl, rfl, rfl⟩
                by_cases c3406 : t3404 = true
                · rw [if_pos c3406] at h
                  obtain rfl := c3406
                  refine VL.va (op_not rfl rfl (ltn rfl)) rfl ?_
                  refine VL.va (op_move rfl (ltn rfl)) rfl ?_
                  replace h := Option.bind_eq_some_iff.1 h
                  obtain ⟨t3407, hA3408, h⟩ := h
                  refine VL.sC (o_call0 FO13 (tarrylaw09_alive.ok k t3407 hA3408) rfl rfl (ltn rfl) (All_of .nil)) rfl ?_
                  rintro _ _ _ ⟨rfl, rfl, rfl⟩
                  by_cases c3409 : t3407 = true
                  · rw [if_pos c3409] at h
                    obtain rfl := c3409
                    refine VL.va (op_not rfl rfl (ltn rfl)) rfl ?_
                    refine VL.va (op_pick rfl rfl (ltn rfl)) rfl ?_
                    refine VL.done ?_
                    refine VN.then ?_
                    refine VC.cond_f rfl ?_
                    refine VC.skip ?_
                    refine VN.then ?_
                    refine VC.seq ?_
                    refine VC.region ?_
                    refine VL.va (op_move rfl (ltn rfl)) rfl ?_
                    refine VL.va (op_load 0 4 rfl rfl TI26 rfl (fun h => absurd h (by decide)) (ltn rfl)) rfl ?_
                    replace h := Option.bind_eq_some_iff.1 h
                    obtain ⟨⟨r3410, t3411⟩, hA3412, h⟩ := h
                    dsimp only at h
                    refine VL.sC (o_call_b0 FO10 (waits_Put.ok k l3273 t138 t139 t140 t141 v3272 r3410 t3411 hA3412) rfl rfl (ltn rfl) (All_of (.cons (.inr (.inl ⟨_, List.mem_of_getElem? (i := 0) rfl, rfl⟩)) .nil)) (by rintro _ _ _ ⟨v3414, rfl, rfl, rfl⟩; rfl)) rfl ?_
                    rintro _ _ _ ⟨v3414, rfl, rfl, rfl⟩
                    refine VL.va (op_move rfl (ltn rfl)) rfl ?_
                    refine VL.va (op_extract rfl rfl (ltn rfl)) rfl ?_
                    refine VL.va (op_extract rfl rfl (ltn rfl)) rfl ?_
                    refine VL.va (op_assign rfl (ltn rfl)) rfl ?_
                    refine VL.va (op_assign rfl (ltn rfl)) rfl ?_
                    refine VL.done ?_
                    refine VN.then ?_
                    refine VC.seq ?_
                    refine VC.seq ?_
                    refine VC.region ?_
                    refine VL.va (op_move rfl (ltn rfl)) rfl ?_
                    refine VL.letter ((t3411 != 0)) fun b3418 hb3418 => ?_
                    refine VL.va (op_cmp rfl rfl (congrArg some hb3418) (ltn rfl)) rfl ?_
                    refine VL.done ?_
                    refine VN.then ?_
                    by_cases c3419 : t3411 = 0
                    · rw [if_pos c3419] at h
                      obtain rfl : b3418 = false := hb3418.symm.trans (bne_eq_false_iff_eq.2 c3419)
                      refine VC.cond_f rfl ?_
                      refine VC.skip ?_
                      refine VN.then ?_
                      refine VC.seq ?_
                      refine VC.region ?_
                      refine VL.va (op_move rfl (ltn rfl)) rfl ?_
                      refine VL.va (op_fieldAddr FI26_1 rfl (add_at _ _ _) (ltn rfl)) rfl ?_
                      refine VL.va (op_fieldAddr FI24_2 rfl (add_at _ _ _) (ltn rfl)) rfl ?_
                      refine VL.va (op_load 0 1 rfl rfl TI3 rfl (by decide) (ltn rfl)) rfl ?_
                      replace h := Option.bind_eq_some_iff.1 h
                      obtain ⟨⟨r3420, t3421⟩, hA3422, h⟩ := h
                      dsimp only at h
                      refine VL.sC (o_call_b0 FO24 (waits_Drop.ok k r3410 t141 v3414 r3420 t3421 hA3422) rfl rfl (ltn rfl) (All_of (.cons (.inr (.inl ⟨_, List.mem_of_getElem? (i := 0) rfl, rfl⟩)) .nil)) (by rintro _ _ _ ⟨v3424, rfl, rfl, rfl⟩; rfl)) rfl ?_
                      rintro _ _ _ ⟨v3424, rfl, rfl, rfl⟩
                      refine VL.va (op_move rfl (ltn rfl)) rfl ?_
                      refine VL.va (op_extract rfl rfl (ltn rfl)) rfl ?_
                      refine VL.va (op_extract rfl rfl (ltn rfl)) rfl ?_
                      refine VL.va (op_assign rfl (ltn rfl)) rfl ?_
                      refine VL.va (op_assign rfl (ltn rfl)) rfl ?_
                      refine VL.done ?_
                      refine VN.then ?_
                      refine VC.seq ?_
                      refine VC.region ?_
                      refine VL.va (op_move rfl (ltn rfl)) rfl ?_
                      refine VL.letter ((t3421 == 0)) fun b3429 hb3429 => ?_
                      refine VL.va (op_cmp rfl rfl (congrArg some hb3429) (ltn rfl)) rfl ?_
                      refine VL.va (op_move rfl (ltn rfl)) rfl ?_
                      by_cases c3430 : t3421 = 0
                      · rw [if_pos c3430] at h
                        obtain rfl : b3429 = true := hb3429.symm.trans (beq_iff_eq.2 c3430)
                        refine VL.va (op_move rfl (ltn rfl)) rfl ?_
                        refine VL.va (op_move rfl (ltn rfl)) rfl ?_
                        replace h := Option.bind_eq_some_iff.1 h
                        obtain ⟨t3431, hA3432, h⟩ := h
                        refine VL.sC (o_call_b0 FO15 (tarryref09_Same.ok k r3420 r2087 v3424 v2091 t3431 hA3432) rfl rfl (ltn rfl) (All_of (.cons (.inr (.inl ⟨_, List.mem_of_getElem? (i := 0) rfl, rfl⟩)) (.cons (.inr (.inl ⟨_, List.mem_of_getElem? (i := 3) rfl, rfl⟩)) .nil))) (by rintro _ _ _ ⟨rfl, rfl, rfl⟩; rfl)) rfl ?_
                        rintro _ _ _ ⟨rfl, rfl, rfl⟩
                        refine VL.va (op_pick rfl rfl (ltn rfl)) rfl ?_
                        refine VL.va (op_assign rfl (ltn rfl)) rfl ?_
                        refine VL.done ?_
                        refine VN.then ?_
                        refine VC.ret ?_
                        obtain rfl := Option.some.inj h
                        exact VR.fn (rs := [.tmp 6]) [] [] [] rfl (.tmp rfl .nil) ⟨rfl, rfl, rfl⟩ trivial rfl (by decide)
                      · rw [if_neg c3430] at h
                        obtain rfl : b3429 = false := hb3429.symm.trans (beq_eq_false_iff_ne.2 c3430)
                        refine VL.un rfl rfl (ltn rfl) ?_
                        refine VL.un rfl rfl (ltn rfl) ?_
                        refine VL.un rfl rfl (ltn rfl) ?_
                        refine VL.va (op_pick rfl rfl (ltn rfl)) rfl ?_
                        refine VL.va (op_assign rfl (ltn rfl)) rfl ?_
                        refine VL.done ?_
                        refine VN.then ?_
                        refine VC.ret ?_
                        cases h
                    · rw [if_neg c3419] at h
                      obtain rfl : b3418 = true := hb3418.symm.trans (bne_iff_ne.2 c3419)
                      refine VC.cond_t rfl ?_
                      refine VC.seq ?_
                      refine VC.region ?_
                      refine VL.va (op_move rfl (ltn rfl)) rfl ?_
                      refine VL.va (op_len_own (m := r3410.length) 0 lenm Try.underlying22 rfl rfl (ltn rfl)) rfl ?_
                      refine VL.letter (((r3410.length : Int) == 0)) fun b3433 hb3433 => ?_
                      refine VL.va (op_cmp rfl rfl (congrArg some hb3433) (ltn rfl)) rfl ?_
                      refine VL.va (op_assign rfl (ltn rfl)) rfl ?_
                      refine VL.done ?_
                      refine VN.then ?_
                      refine VC.ret ?_
                      refine VR.then ?_
                      obtain rfl := Option.some.inj h
                      subst hb3433
                      exact VR.fn (rs := [.tmp 6]) [] [] [] rfl (.tmp rfl .nil) ⟨rfl, rfl, rfl⟩ trivial rfl (by decide)
                  · rw [if_neg c3409] at h
                    obtain rfl := Bool.eq_false_iff.2 c3409
                    refine VL.va (op_not rfl rfl (ltn rfl)) rfl ?_
                    refine VL.va (op_pick rfl rfl (ltn rfl)) rfl ?_
                    refine VL.done ?_
                    refine VN.then ?_
                    refine VC.cond_t rfl ?_
                    refine VC.seq ?_
                    refine VC.region ?_
                    refine VL.va (op_assign rfl (ltn rfl)) rfl ?_
                    refine VL.done ?_
                    refine VN.then ?_
                    refine VC.ret ?_
                    refine VR.then ?_
                    cases h
                · rw [if_neg c3406] at h
                  obtain rfl := Bool.eq_false_iff.2 c3406
                  refine VL.va (op_not rfl rfl (ltn rfl)) rfl ?_
                  refine VL.va (op_move rfl (ltn rfl)) rfl ?_
                  refine VL.un rfl rfl (ltn rfl) ?_
                  refine VL.un rfl rfl (ltn rfl) ?_
                  refine VL.va (op_pick rfl rfl (ltn rfl)) rfl ?_
                  refine VL.done ?_
                  refine VN.then ?_
                  refine VC.cond_t rfl ?_
                  refine VC.seq ?_
                  refine VC.region ?_
                  refine VL.va (op_assign rfl (ltn rfl)) rfl ?_
                  refine VL.done ?_
                  refine VN.then ?_
                  refine VC.ret ?_
                  refine VR.then ?_
                  cases h
            · rw [if_neg c3237] at h; cases h
          · rw [if_neg c3232] at h; cases h
        · rw [if_neg c3229] at h; cases h
      · rw [if_neg c3228] at h; cases h
    · rw [if_neg c3113] at h; cases h

end Go.Proofs.Ytdofmkbffffbpaa.PWaitsBuilt
