/- Written by a program of this repo: what the program's functions do, each as a Lean function, shown of the loaded code; or a statement's row over that; no condition of its own. -/
import Derived.Test.YtjghhdnecilcfaaPNetGoesx3
namespace Go.Proofs.Ytjghhdnecilcfaa.PNetGoes
open Go Go.RowKit Go.Proofs.YtjghhdnecilcfaaV
set_option linter.unusedVariables false
set_option linter.unusedSimpArgs false

set_option maxHeartbeats 4000000 in
set_option maxRecDepth 100000 in
theorem tarrylaw15_NetGoes.ok (k : Nat) (l0_0 : List S25) (a0_1 : Int) (a1_0 : Int) (a1_1 : Bool) (a1_2 : Int) (a1_3 : Int) (a1_4 : Int) (a1_5 : Bool) (a2 : Int) (v0_0 : Value) (r1 : Bool) (h : tarrylaw15_NetGoes.f k l0_0 a0_1 a1_0 a1_1 a1_2 a1_3 a1_4 a1_5 a2 = some r1) :
    VCalls Try.prog 3 [.agg #[v0_0, .int .i64 a0_1], .agg #[.int .i64 a1_0, .bool a1_1, .int .i64 a1_2, .int .i64 a1_3, .int .i64 a1_4, .bool a1_5], .int .i64 a2] [.row v0_0 6 (l0_0.map enc25)] (fun v G own => v = .bool r1 ∧ G = [] ∧ own = []) := by
  refine VCalls.intro Try.func3 rfl (len rfl) fun E hC => ?_
  unfold tarrylaw15_NetGoes.f at h
  refine VC.seq ?_
  refine VC.region ?_
  refine VL.sG (o_box rfl (.agg (.f 0 rfl (.c rfl .nil))) (ltn rfl)) rfl ?_
  intro g2
  refine VL.sG (o_box rfl (.agg (.c rfl (.c rfl (.c rfl (.c rfl (.c rfl (.c rfl .nil))))))) (ltn rfl)) rfl ?_
  intro g3
  refine VL.va (op_assign rfl (ltn rfl)) rfl ?_
  refine VL.done ?_
  refine VN.then ?_
  refine VC.seq ?_
  refine VC.region ?_
  refine VL.va (op_load 1 2 rfl rfl TI24 rfl (fun h => absurd h (by decide)) (ltn rfl)) rfl ?_
  replace h := Option.bind_eq_some_iff.1 h
  obtain ⟨⟨r18, t19⟩, hA20, h⟩ := h
  dsimp only at h
  refine VL.sC (o_call0 FO6 (tarrylaw15_few.ok l0_0 a0_1 v0_0 r18 t19 hA20) rfl rfl (ltn rfl) (All_of (.cons (List.mem_of_getElem? (i := 0) rfl) .nil))) rfl ?_
  rintro _ _ _ ⟨v22, rfl, rfl, rfl⟩
  refine VL.step1 (o_store 1 2 rfl rfl rfl TI24 (.agg (.f 0 rfl (.c rfl .nil))) rfl (len rfl)) rfl ?_
  refine VL.done ?_
  refine VN.then ?_
  refine VC.seq ?_
  refine VC.region ?_
  refine VL.va (op_load 1 2 rfl rfl TI24 rfl (fun h => absurd h (by decide)) (ltn rfl)) rfl ?_
  refine VL.va (op_load 0 6 rfl rfl TI26 rfl (fun h => absurd h (by decide)) (ltn rfl)) rfl ?_
  replace h := Option.bind_eq_some_iff.1 h
  obtain ⟨⟨r434, t435, t436, t437⟩, hA438, h⟩ := h
  dsimp only at h
  refine VL.sC (o_call0 FO7 (net_Post.ok k r18 t19 a1_0 a1_1 a1_2 a1_3 a1_4 a1_5 v22 r434 t435 t436 t437 hA438) rfl rfl (ltn rfl) (All_of (.cons (List.mem_of_getElem? (i := 0) rfl) .nil))) rfl ?_
  rintro _ _ _ ⟨v440, rfl, rfl, rfl⟩
  refine VL.va (op_move rfl (ltn rfl)) rfl ?_
  refine VL.va (op_extract rfl rfl (ltn rfl)) rfl ?_
  refine VL.va (op_extract rfl rfl (ltn rfl)) rfl ?_
  refine VL.va (op_extract rfl rfl (ltn rfl)) rfl ?_
  refine VL.sG (o_alloc (us := [.slice none 0 0, .int .i64 0]) Z24 rfl (ltn rfl)) rfl ?_
  intro g441
  refine VL.step1 (o_store 0 2 rfl rfl rfl TI24 (.agg (.f 0 rfl (.c rfl .nil))) rfl (len rfl)) rfl ?_
  refine VL.va (op_assign rfl (ltn rfl)) rfl ?_
  refine VL.va (op_assign rfl (ltn rfl)) rfl ?_
  refine VL.done ?_
  refine VN.then ?_
  refine VC.seq ?_
  refine VC.region ?_
  refine VL.va (op_load 2 2 rfl rfl TI24 rfl (fun h => absurd h (by decide)) (ltn rfl)) rfl ?_
  refine VL.va (op_move rfl (ltn rfl)) rfl ?_
  replace h := Option.bind_eq_some_iff.1 h
  obtain ⟨⟨r545, t546, t547, t548, t549, t550, t551, t552, t553⟩, hA554, h⟩ := h
  dsimp only at h
  refine VL.sC (o_call0 FO8 (net_Take.ok k r18 t19 a2 v22 r545 t546 t547 t548 t549 t550 t551 t552 t553 hA554) rfl rfl (ltn rfl) (All_of (.cons (List.mem_of_getElem? (i := 1) rfl) .nil))) rfl ?_
  rintro _ _ _ ⟨v556, rfl, rfl, rfl⟩
  refine VL.va (op_move rfl (ltn rfl)) rfl ?_
  refine VL.va (op_extract rfl rfl (ltn rfl)) rfl ?_
  refine VL.va (op_extract rfl rfl (ltn rfl)) rfl ?_
  refine VL.va (op_extract rfl rfl (ltn rfl)) rfl ?_
  refine VL.sG (o_alloc (us := [.slice none 0 0, .int .i64 0]) Z24 rfl (ltn rfl)) rfl ?_
  intro g557
  refine VL.sG (o_alloc (us := [.int .i64 0, .bool false, .int .i64 0, .int .i64 0, .int .i64 0, .bool false]) Z26 rfl (ltn rfl)) rfl ?_
  intro g558
  refine VL.step1 (o_store 1 2 rfl rfl rfl TI24 (.agg (.f 0 rfl (.c rfl .nil))) rfl (len rfl)) rfl ?_
  refine VL.step1 (o_store 0 6 rfl rfl rfl TI26 (.agg (.c rfl (.c rfl (.c rfl (.c rfl (.c rfl (.c rfl .nil))))))) rfl (len rfl)) rfl ?_
  refine VL.va (op_assign rfl (ltn rfl)) rfl ?_
  refine VL.done ?_
  refine VN.then ?_
  refine VC.seq ?_
  refine VC.region ?_
  refine VL.va (op_load 4 2 rfl rfl TI24 rfl (fun h => absurd h (by decide)) (ltn rfl)) rfl ?_
  refine VL.va (op_move rfl (ltn rfl)) rfl ?_
  replace h := Option.bind_eq_some_iff.1 h
  obtain ⟨⟨r628, t629, t630⟩, hA631, h⟩ := h
  dsimp only at h
  refine VL.sC (o_call0 FO9 (net_Twice.ok k r18 t19 a2 v22 r628 t629 t630 hA631) rfl rfl (ltn rfl) (All_of (.cons (List.mem_of_getElem? (i := 2) rfl) .nil))) rfl ?_
  rintro _ _ _ ⟨v633, rfl, rfl, rfl⟩
  refine VL.va (op_move rfl (ltn rfl)) rfl ?_
  refine VL.va (op_extract rfl rfl (ltn rfl)) rfl ?_
  refine VL.va (op_extract rfl rfl (ltn rfl)) rfl ?_
  refine VL.sG (o_alloc (us := [.slice none 0 0, .int .i64 0]) Z24 rfl (ltn rfl)) rfl ?_
  intro g634
  refine VL.step1 (o_store 0 2 rfl rfl rfl TI24 (.agg (.f 0 rfl (.c rfl .nil))) rfl (len rfl)) rfl ?_
  refine VL.va (op_assign rfl (ltn rfl)) rfl ?_
  refine VL.done ?_
  refine VN.then ?_
  refine VC.seq ?_
  refine VC.region ?_
  refine VL.va (op_load 5 2 rfl rfl TI24 rfl (fun h => absurd h (by decide)) (ltn rfl)) rfl ?_
  refine VL.va (op_move rfl (ltn rfl)) rfl ?_
  replace h := Option.bind_eq_some_iff.1 h
  obtain ⟨⟨r690, t691, t692⟩, hA693, h⟩ := h
  dsimp only at h
  refine VL.sC (o_call0 FO10 (net_Last.ok k r18 t19 a2 v22 r690 t691 t692 hA693) rfl rfl (ltn rfl) (All_of (.cons (List.mem_of_getElem? (i := 3) rfl) .nil))) rfl ?_
  rintro _ _ _ ⟨v695, rfl, rfl, rfl⟩
  refine VL.va (op_move rfl (ltn rfl)) rfl ?_
  refine VL.va (op_extract rfl rfl (ltn rfl)) rfl ?_
  refine VL.va (op_extract rfl rfl (ltn rfl)) rfl ?_
  refine VL.sG (o_alloc (us := [.slice none 0 0, .int .i64 0]) Z24 rfl (ltn rfl)) rfl ?_
  intro g696
  refine VL.step1 (o_store 0 2 rfl rfl rfl TI24 (.agg (.f 0 rfl (.c rfl .nil))) rfl (len rfl)) rfl ?_
  refine VL.va (op_assign rfl (ltn rfl)) rfl ?_
  refine VL.done ?_
  refine VN.then ?_
  refine VC.seq ?_
  refine VC.region ?_
  refine VL.va (op_build (vals := []) (vcs := []) (cells := [.slice none 0 0, .int .i64 0]) SI24 rfl .nil (by kernel_rfl) (ltn rfl)) rfl ?_
  refine VL.sG (o_alloc (us := [.slice none 0 0, .int .i64 0]) Z24 rfl (ltn rfl)) rfl ?_
  intro g697
  refine VL.step1 (o_store 0 2 rfl rfl rfl TI24 (.agg (.c rfl (.c rfl .nil))) rfl (len rfl)) rfl ?_
  refine VL.done ?_
  refine VN.then ?_
  refine VC.seq ?_
  replace h := Option.bind_eq_some_iff.1 h
  obtain ⟨t1059, hA1060, h⟩ := h
  replace h := Option.bind_eq_some_iff.1 h
  obtain ⟨t1061, hA1062, h⟩ := h
  refine VC.letter ((!(t1059 == t1061))) fun b1063 hb1063 => ?_
  by_cases c1064 : t1059 = t1061
  · rw [if_pos c1064] at h
    obtain rfl : b1063 = false := hb1063.symm.trans (by rw [c1064]; simp)
    replace h := Option.bind_eq_some_iff.1 h
    obtain ⟨t1065, hA1066, h⟩ := h
    by_cases c1067 : t1065 = true
    · rw [if_pos c1067] at h
      obtain rfl := c1067
      refine VC.join0 (⟨261, [(2, .int .i64 a2), (3, .pointer (some ⟨g2, 0, none⟩)), (4, .pointer (some ⟨g3, 0, none⟩)), (6, .bool false), (7, .pointer (some ⟨g441, 0, none⟩)), (8, .int .i64 t436), (9, .int .i64 t437), (10, .pointer (some ⟨g557, 0, none⟩)), (11, .pointer (some ⟨g558, 0, none⟩)), (12, .int .i64 t553), (13, .pointer (some ⟨g634, 0, none⟩)), (14, .int .i64 t630), (15, .pointer (some ⟨g696, 0, none⟩)), (16, .int .i64 t692), (17, .pointer (some ⟨g697, 0, none⟩)), (62, .bool false)], [.row v695 6 (r690.map enc25), .row v633 6 (r628.map enc25), .row v556 6 (r545.map enc25), .row v440 6 (r434.map enc25), .row v22 6 (r18.map enc25)], [(g697, 24, [.slice none 0 0, .int .i64 0]), (g696, 24, [v695, .int .i64 t691]), (g634, 24, [v633, .int .i64 t629]), (g558, 26, [.int .i64 t547, .bool t548, .int .i64 t549, .int .i64 t550, .int .i64 t551, .bool t552]), (g557, 24, [v556, .int .i64 t546]), (g441, 24, [v440, .int .i64 t435]), (g3, 26, [.int .i64 a1_0, .bool a1_1, .int .i64 a1_2, .int .i64 a1_3, .int .i64 a1_4, .bool a1_5]), (g2, 24, [v22, .int .i64 t19])], []⟩) (True) ?_ ?_
      · refine VC.draw ⟨0, [], [], [(g2, 24, [v22, .int .i64 t19])], []⟩ (by kernel_rfl) rfl (by kernel_rfl) (n := 9) (listed := LB 9 0) ?_
        refine VA.va (i := 0) (listed' := LB 9 1) rfl (op_load 0 2 rfl rfl TI24 rfl (fun h => absurd h (by decide)) (ltn rfl)) rfl (by kernel_rfl) (by kernel_rfl) (by kernel_rfl) (by kernel_rfl) ⟨trivial, ⟨⟨7, rfl⟩, trivial⟩, trivial⟩ (fun _ _ _ h => h) ?_
        refine VA.va (i := 2) (listed' := LB 9 5) rfl (op_load 0 2 rfl rfl TI24 rfl (fun h => absurd h (by decide)) (ltn rfl)) rfl (by kernel_rfl) (by kernel_rfl) (by kernel_rfl) (by kernel_rfl) ⟨trivial, ⟨⟨7, rfl⟩, trivial⟩, trivial⟩ (fun _ _ _ h => h) ?_
        refine VA.oneC (i := 1) (listed' := LB 9 7) (by kernel_rfl) rfl (o_call0 FO11 (net_Right.ok k r18 t19 v22 t1059 hA1060) rfl rfl (ltn rfl) (All_of (.cons (List.mem_of_getElem? (i := 4) rfl) .nil))) rfl (by kernel_rfl) ?_
        rintro _ _ _ ⟨rfl, rfl, rfl⟩
        refine ⟨⟨trivial, ⟨⟨7, rfl⟩, trivial⟩, trivial⟩, ?_⟩
        refine VA.oneC (i := 3) (listed' := LB 9 15) (by kernel_rfl) rfl (o_call0 FO12 (tarrylaw15_right.ok k r18 t19 v22 t1061 hA1062) rfl rfl (ltn rfl) (All_of (.cons (List.mem_of_getElem? (i := 4) rfl) .nil))) rfl (by kernel_rfl) ?_
        rintro _ _ _ ⟨rfl, rfl, rfl⟩
        refine ⟨⟨trivial, ⟨⟨7, rfl⟩, trivial⟩, trivial⟩, ?_⟩
        refine VA.va (i := 4) (listed' := LB 9 31) rfl (op_eqb Try.underlying4 rfl rfl (congrArg some hb1063) (ltn rfl)) rfl (by kernel_rfl) (by kernel_rfl) (by kernel_rfl) (by kernel_rfl) ⟨trivial, ⟨⟨7, rfl⟩, trivial⟩, trivial⟩ (fun _ _ _ h => h) ?_
        refine VA.va (i := 5) (listed' := LB 9 63) rfl (op_move rfl (ltn rfl)) rfl (by kernel_rfl) (by kernel_rfl) (by kernel_rfl) (by kernel_rfl) ⟨trivial, ⟨⟨7, rfl⟩, trivial⟩, trivial⟩ (fun _ _ _ h => h) ?_
        refine VA.oneC (i := 6) (listed' := LB 9 127) (by kernel_rfl) rfl (o_call0 FO13 (tarrylaw15_alive.ok k true hA1066) rfl rfl (ltn rfl) (All_of .nil)) rfl (by kernel_rfl) ?_
        rintro _ _ _ ⟨rfl, rfl, rfl⟩
        refine ⟨⟨trivial, ⟨⟨7, rfl⟩, trivial⟩, trivial⟩, ?_⟩
        refine VA.va (i := 7) (listed' := LB 9 255) rfl (op_not rfl rfl (ltn rfl)) rfl (by kernel_rfl) (by kernel_rfl) (by kernel_rfl) (by kernel_rfl) ⟨trivial, ⟨⟨7, rfl⟩, trivial⟩, trivial⟩ (fun _ _ _ h => h) ?_
        refine VA.va (i := 8) (listed' := LB 9 511) rfl (op_pick rfl rfl (ltn rfl)) rfl (by kernel_rfl) (by kernel_rfl) (by kernel_rfl) (by kernel_rfl) ⟨trivial, ⟨⟨7, rfl⟩, trivial⟩, trivial⟩ (fun _ _ _ h => h) ?_
        refine VA.done (by kernel_rfl) ?_
        exact VN.meet0  [0, 1, 2, 3, 4, 5, 6, 7] [] trivial ⟨rfl, ⟨rfl, rfl, rfl, rfl, rfl, rfl, rfl, rfl, rfl, rfl, rfl, rfl, rfl, rfl, rfl, rfl, trivial⟩, ⟨⟨0, rfl⟩, ⟨1, rfl⟩, ⟨2, rfl⟩, ⟨3, rfl⟩, ⟨4, rfl⟩, trivial⟩, rfl, by decide, rfl, by decide⟩
      intro _
      refine VC.cond_f rfl ?_
      refine VC.skip ?_
      refine VN.then ?_
      refine VC.seq ?_
      refine VC.region ?_
      refine VL.va (op_assign rfl (ltn rfl)) rfl ?_
      refine VL.done ?_
      refine VN.then ?_
      refine VC.join1 (fun (i19540 : Int) => ⟨261, [(2, .int .i64 a2), (3, .pointer (some ⟨g2, 0, none⟩)), (4, .pointer (some ⟨g3, 0, none⟩)), (6, .bool false), (7, .pointer (some ⟨g441, 0, none⟩)), (8, .int .i64 t436), (9, .int .i64 t437), (10, .pointer (some ⟨g557, 0, none⟩)), (11, .pointer (some ⟨g558, 0, none⟩)), (12, .int .i64 t553), (13, .pointer (some ⟨g634, 0, none⟩)), (14, .int .i64 t630), (15, .pointer (some ⟨g696, 0, none⟩)), (16, .int .i64 t692), (17, .pointer (some ⟨g697, 0, none⟩)), (18, .int .i64 i19540)], [.row v695 6 (r690.map enc25), .row v633 6 (r628.map enc25), .row v556 6 (r545.map enc25), .row v440 6 (r434.map enc25), .row v22 6 (r18.map enc25)], [(g697, 24, [.slice none 0 0, .int .i64 0]), (g696, 24, [v695, .int .i64 t691]), (g634, 24, [v633, .int .i64 t629]), (g558, 26, [.int .i64 t547, .bool t548, .int .i64 t549, .int .i64 t550, .int .i64 t551, .bool t552]), (g557, 24, [v556, .int .i64 t546]), (g441, 24, [v440, .int .i64 t435]), (g3, 26, [.int .i64 a1_0, .bool a1_1, .int .i64 a1_2, .int .i64 a1_3, .int .i64 a1_4, .bool a1_5]), (g2, 24, [v22, .int .i64 t19])], []⟩) (fun (i19540 : Int) => tarrylaw15_NetGoes.j55 k a1_1 a1_2 a1_3 a1_4 a1_5 a2 r18 r434 r545 r628 r690 t19 t435 t436 t437 t546 t547 t548 t549 t550 t551 t552 t553 t629 t630 t691 t692 i19540 = some r1) ?_ ?_
      · refine VC.block ?_
        refine VC.seq ?_
        refine VC.region ?_
        refine VL.va (op_load 7 2 rfl rfl TI24 rfl (fun h => absurd h (by decide)) (ltn rfl)) rfl ?_
        replace h := Option.bind_eq_some_iff.1 h
        obtain ⟨t19527, hA19528, h⟩ := h
        refine VL.sC (o_call0 FO12 (tarrylaw15_right.ok k r18 t19 v22 t19527 hA19528) rfl rfl (ltn rfl) (All_of (.cons (List.mem_of_getElem? (i := 4) rfl) .nil))) rfl ?_
        rintro _ _ _ ⟨rfl, rfl, rfl⟩
        by_cases c19529 : t19527 = true
        · rw [if_pos c19529] at h
          obtain rfl := c19529
          refine VL.va (op_not rfl rfl (ltn rfl)) rfl ?_
          refine VL.va (op_move rfl (ltn rfl)) rfl ?_
          refine VL.va (op_load 6 6 rfl rfl TI26 rfl (fun h => absurd h (by decide)) (ltn rfl)) rfl ?_
          replace h := Option.bind_eq_some_iff.1 h
          obtain ⟨t19530, hA19531, h⟩ := h
          refine VL.sC (o_call0 FO14 (tarrylaw15_may.ok a1_0 a1_1 a1_2 a1_3 a1_4 a1_5 t19530 hA19531) rfl rfl (ltn rfl) (All_of .nil)) rfl ?_
          rintro _ _ _ ⟨rfl, rfl, rfl⟩
          by_cases c19532 : t19530 = true
          · rw [if_pos c19532] at h
            obtain rfl := c19532
            refine VL.va (op_not rfl rfl (ltn rfl)) rfl ?_
            refine VL.va (op_pick rfl rfl (ltn rfl)) rfl ?_
            refine VL.va (op_assign rfl (ltn rfl)) rfl ?_
            refine VL.done ?_
            refine VN.then ?_
            refine VC.cond_f rfl ?_
            refine VC.seq ?_
            refine VC.region ?_
            refine VL.va (op_fieldAddr FI24_0 rfl (add_at _ _ _) (ltn rfl)) rfl ?_
            refine VL.va (op_load 7 1 rfl rfl TI22 rfl (by decide) (ltn rfl)) rfl ?_
            refine VL.va (op_len (m := r18.length) 4 lenm Try.underlying22 rfl rfl (ltn rfl)) rfl ?_
            refine VL.letter (((r18.length : Int) == 64)) fun b19536 hb19536 => ?_
            refine VL.va (op_cmp rfl rfl (congrArg some hb19536) (ltn rfl)) rfl ?_
            refine VL.va (op_move rfl (ltn rfl)) rfl ?_
            by_cases c19537 : (r18.length : Int) = 64
            · rw [if_pos c19537] at h
              obtain rfl : b19536 = true := hb19536.symm.trans (beq_iff_eq.2 c19537)
              refine VL.un rfl rfl (ltn rfl) ?_
              refine VL.un rfl rfl (ltn rfl) ?_
              refine VL.un rfl rfl (ltn rfl) ?_
              refine VL.va (op_pick rfl rfl (ltn rfl)) rfl ?_
              refine VL.va (op_assign rfl (ltn rfl)) rfl ?_
              refine VL.done ?_
              refine VN.then ?_
              refine VC.cond_t rfl ?_
              refine VC.region ?_
              refine VL.va (op_assign rfl (ltn rfl)) rfl ?_
              refine VL.done ?_
              refine VN.block ?_
              refine VN.meet1 7 [0, 1, 2, 3, 4, 5, 6, 7] [] h ⟨rfl, ⟨rfl, rfl, rfl, rfl, rfl, rfl, rfl, rfl, rfl, rfl, rfl, rfl, rfl, rfl, rfl, rfl, trivial⟩, ⟨⟨0, rfl⟩, ⟨1, rfl⟩, ⟨2, rfl⟩, ⟨3, rfl⟩, ⟨4, rfl⟩, trivial⟩, rfl, by decide, rfl, by decide⟩
            · rw [if_neg c19537] at h
              obtain rfl : b19536 = false := hb19536.symm.trans (beq_eq_false_iff_ne.2 c19537)
              refine VL.va (op_fieldAddr FI24_1 rfl (add_at _ _ _) (ltn rfl)) rfl ?_
              refine VL.va (op_load 7 1 rfl rfl TI3 rfl (by decide) (ltn rfl)) rfl ?_
              refine VL.letter ((t19 == 1099511627776)) fun b19538 hb19538 => ?_
              refine VL.va (op_cmp rfl rfl (congrArg some hb19538) (ltn rfl)) rfl ?_
              refine VL.va (op_pick rfl rfl (ltn rfl)) rfl ?_
              refine VL.va (op_assign rfl (ltn rfl)) rfl ?_
              refine VL.done ?_
              refine VN.then ?_
              by_cases c19539 : t19 = 1099511627776
              · rw [if_pos c19539] at h
                obtain rfl : b19538 = true := hb19538.symm.trans (beq_iff_eq.2 c19539)
                refine VC.cond_t rfl ?_
                refine VC.region ?_
                refine VL.va (op_assign rfl (ltn rfl)) rfl ?_
                refine VL.done ?_
                refine VN.block ?_
                refine VN.meet1 7 [0, 1, 2, 3, 4, 5, 6, 7] [] h ⟨rfl, ⟨rfl, rfl, rfl, rfl, rfl, rfl, rfl, rfl, rfl, rfl, rfl, rfl, rfl, rfl, rfl, rfl, trivial⟩, ⟨⟨0, rfl⟩, ⟨1, rfl⟩, ⟨2, rfl⟩, ⟨3, rfl⟩, ⟨4, rfl⟩, trivial⟩, rfl, by decide, rfl, by decide⟩
              · rw [if_neg c19539] at h
                obtain rfl : b19538 = false := hb19538.symm.trans (beq_eq_false_iff_ne.2 c19539)
                refine VC.cond_f rfl ?_
                refine VC.skip ?_
                refine VN.block ?_
                refine VN.meet1 0 [0, 1, 2, 3, 4, 5, 6, 7] [] h ⟨rfl, ⟨rfl, rfl, rfl, rfl, rfl, rfl, rfl, rfl, rfl, rfl, rfl, rfl, rfl, rfl, rfl, rfl, trivial⟩, ⟨⟨0, rfl⟩, ⟨1, rfl⟩, ⟨2, rfl⟩, ⟨3, rfl⟩, ⟨4, rfl⟩, trivial⟩, rfl, by decide, rfl, by decide⟩
          · rw [if_neg c19532] at h
            obtain rfl := Bool.eq_false_iff.2 c19532
            refine VL.va (op_not rfl rfl (ltn rfl)) rfl ?_
            refine VL.va (op_pick rfl rfl (ltn rfl)) rfl ?_
            refine VL.va (op_assign rfl (ltn rfl)) rfl ?_
            refine VL.done ?_
            refine VN.then ?_
            refine VC.cond_t rfl ?_
            refine VC.region ?_
            refine VL.va (op_assign rfl (ltn rfl)) rfl ?_
            refine VL.done ?_
            refine VN.block ?_
            refine VN.meet1 1 [0, 1, 2, 3, 4, 5, 6, 7] [] h ⟨rfl, ⟨rfl, rfl, rfl, rfl, rfl, rfl, rfl, rfl, rfl, rfl, rfl, rfl, rfl, rfl, rfl, rfl, trivial⟩, ⟨⟨0, rfl⟩, ⟨1, rfl⟩, ⟨2, rfl⟩, ⟨3, rfl⟩, ⟨4, rfl⟩, trivial⟩, rfl, by decide, rfl, by decide⟩
        · rw [if_neg c19529] at h
          obtain rfl := Bool.eq_false_iff.2 c19529
          refine VL.va (op_not rfl rfl (ltn rfl)) rfl ?_
          refine VL.va (op_move rfl (ltn rfl)) rfl ?_
          refine VL.un rfl rfl (ltn rfl) ?_
          refine VL.un rfl rfl (ltn rfl) ?_
          refine VL.un rfl rfl (ltn rfl) ?_
          refine VL.va (op_pick rfl rfl (ltn rfl)) rfl ?_
          refine VL.va (op_assign rfl (ltn rfl)) rfl ?_
          refine VL.done ?_
          refine VN.then ?_
          refine VC.cond_t rfl ?_
          refine VC.region ?_
          refine VL.va (op_assign rfl (ltn rfl)) rfl ?_
          refine VL.done ?_
          refine VN.block ?_
          refine VN.meet1 1 [0, 1, 2, 3, 4, 5, 6, 7] [] h ⟨rfl, ⟨rfl, rfl, rfl, rfl, rfl, rfl, rfl, rfl, rfl, rfl, rfl, rfl, rfl, rfl, rfl, rfl, trivial⟩, ⟨⟨0, rfl⟩, ⟨1, rfl⟩, ⟨2, rfl⟩, ⟨3, rfl⟩, ⟨4, rfl⟩, trivial⟩, rfl, by decide, rfl, by decide⟩
      intro i19540 h
      unfold tarrylaw15_NetGoes.j55 at h
      by_cases c19543 : (([] : List S25).length + r18.length) * 48 ≤ 140737488355328
      · rw [if_pos c19543] at h
        refine VC.join2 (fun (g19546 : Nat) (v19544 : Value) => ⟨261, [(2, .int .i64 a2), (3, .pointer (some ⟨g2, 0, none⟩)), (4, .pointer (some ⟨g3, 0, none⟩)), (6, .bool false), (7, .pointer (some ⟨g441, 0, none⟩)), (8, .int .i64 t436), (9, .int .i64 t437), (10, .pointer (some ⟨g557, 0, none⟩)), (11, .pointer (some ⟨g558, 0, none⟩)), (12, .int .i64 t553), (13, .pointer (some ⟨g634, 0, none⟩)), (14, .int .i64 t630), (15, .pointer (some ⟨g696, 0, none⟩)), (16, .int .i64 t692), (17, .pointer (some ⟨g697, 0, none⟩)), (18, .int .i64 i19540), (19, .pointer (some ⟨g19546, 0, none⟩))], [.row v695 6 (r690.map enc25), .row v633 6 (r628.map enc25), .row v556 6 (r545.map enc25), .row v440 6 (r434.map enc25), .row v22 6 (r18.map enc25)], [(g19546, 24, [v19544, .int .i64 (wrap64 (t19 + 1))]), (g697, 24, [.slice none 0 0, .int .i64 0]), (g696, 24, [v695, .int .i64 t691]), (g634, 24, [v633, .int .i64 t629]), (g558, 26, [.int .i64 t547, .bool t548, .int .i64 t549, .int .i64 t550, .int .i64 t551, .bool t552]), (g557, 24, [v556, .int .i64 t546]), (g441, 24, [v440, .int .i64 t435]), (g3, 26, [.int .i64 a1_0, .bool a1_1, .int .i64 a1_2, .int .i64 a1_3, .int .i64 a1_4, .bool a1_5]), (g2, 24, [v22, .int .i64 t19])], [(v19544, 26, 6, (([] : List S25) ++ r18).map enc25)]⟩) (fun (g19546 : Nat) (v19544 : Value) => True) ?_ ?_
        · refine VC.draw ⟨0, [], [], [(g2, 24, [v22, .int .i64 t19])], []⟩ (by kernel_rfl) rfl (by kernel_rfl) (n := 10) (listed := LB 10 0) ?_
          refine VA.va (i := 0) (listed' := LB 10 1) rfl (op_fieldAddr FI24_1 rfl (add_at _ _ _) (ltn rfl)) rfl (by kernel_rfl) (by kernel_rfl) (by kernel_rfl) (by kernel_rfl) ⟨trivial, ⟨⟨7, rfl⟩, trivial⟩, trivial⟩ (fun _ _ _ h => h) ?_
          refine VA.va (i := 1) (listed' := LB 10 3) rfl (op_load 0 1 rfl rfl TI3 rfl (by decide) (ltn rfl)) rfl (by kernel_rfl) (by kernel_rfl) (by kernel_rfl) (by kernel_rfl) ⟨trivial, ⟨⟨7, rfl⟩, trivial⟩, trivial⟩ (fun _ _ _ h => h) ?_
          refine VA.va (i := 2) (listed' := LB 10 7) rfl (op_ari64 rfl rfl rfl (ltn rfl)) rfl (by kernel_rfl) (by kernel_rfl) (by kernel_rfl) (by kernel_rfl) ⟨trivial, ⟨⟨7, rfl⟩, trivial⟩, trivial⟩ (fun _ _ _ h => h) ?_
          refine VA.va (i := 4) (listed' := LB 10 23) rfl (op_fieldAddr FI24_0 rfl (add_at _ _ _) (ltn rfl)) rfl (by kernel_rfl) (by kernel_rfl) (by kernel_rfl) (by kernel_rfl) ⟨trivial, ⟨⟨7, rfl⟩, trivial⟩, trivial⟩ (fun _ _ _ h => h) ?_
          refine VA.va (i := 5) (listed' := LB 10 55) rfl (op_load 0 1 rfl rfl TI22 rfl (by decide) (ltn rfl)) rfl (by kernel_rfl) (by kernel_rfl) (by kernel_rfl) (by kernel_rfl) ⟨trivial, ⟨⟨7, rfl⟩, trivial⟩, trivial⟩ (fun _ _ _ h => h) ?_
          refine VA.all [3, 8] (by kernel_rfl) (by simp) ?_
          refine VAll.consG (listed' := LB 10 63) rfl (o_buildSlice (vals := []) (cells := #[]) (es := List.map enc25 ([] : List S25)) Try.underlying22 TI26 Z26 rfl (by decide) (by decide) (by kernel_rfl) (by kernel_rfl) rfl (flat_map enc25_ok _) (ltn rfl)) rfl (by kernel_rfl) (fun _ => ⟨trivial, ⟨⟨7, rfl⟩, trivial⟩, trivial⟩) ?_ ?_
          · intro v19542
            refine VA.all [6, 8] (by kernel_rfl) (by simp) ?_
            refine VAll.consG (listed' := LB 10 127) rfl (o_append 0 appm Try.underlying22 EI26 rfl rfl rfl (.inl ⟨4, rfl⟩) (bndm c19543) (ltn rfl)) rfl (by kernel_rfl) (fun _ => ⟨trivial, ⟨⟨7, rfl⟩, trivial⟩, trivial⟩) ?_ ?_
            · intro v19544
              refine VA.more ⟨0, [], [], [(g2, 24, [v22, .int .i64 t19])], [(v19544, 26, 6, (([] : List S25) ++ r18).map enc25)]⟩ ⟨trivial, ⟨⟨0, rfl⟩, trivial⟩, trivial⟩ ?_
              refine VA.va (i := 7) (listed' := LB 10 255) rfl (op_build (vals := [(1, .int .i64 (wrap64 (t19 + 1))), (0, v19544)]) (vcs := [(1, [.int .i64 (wrap64 (t19 + 1))]), (0, [v19544])]) (cells := [v19544, .int .i64 (wrap64 (t19 + 1))]) SI24 rfl (.cons ⟨rfl, (.c rfl)⟩ (.cons ⟨rfl, (.r 0 rfl)⟩ .nil)) (by kernel_rfl) (ltn rfl)) rfl (by kernel_rfl) (by kernel_rfl) (by kernel_rfl) (by kernel_rfl) ⟨trivial, ⟨⟨7, rfl⟩, trivial⟩, ⟨⟨0, rfl⟩, trivial⟩⟩ (fun _ _ _ h => h) ?_
              refine VA.oneG (i := 8) (listed' := LB 10 511) (by kernel_rfl) rfl (o_alloc (us := [.slice none 0 0, .int .i64 0]) Z24 rfl (ltn rfl)) rfl (by kernel_rfl) (fun _ => ⟨trivial, ⟨⟨8, rfl⟩, trivial⟩, ⟨⟨0, rfl⟩, trivial⟩⟩) ?_
              intro g19546
              refine VA.one1 (i := 9) (listed' := LB 10 1023) (by kernel_rfl) rfl (o_store 0 2 rfl rfl rfl TI24 (.agg (.r 0 rfl (.c rfl .nil))) rfl (len rfl)) rfl (by kernel_rfl) ⟨trivial, ⟨⟨8, rfl⟩, trivial⟩, ⟨⟨0, rfl⟩, trivial⟩⟩ ?_
              refine VA.done (by kernel_rfl) ?_
              exact VN.meet2 g19546 v19544 [0, 1, 2, 3, 4, 5, 6, 7, 8] [0] trivial ⟨rfl, ⟨rfl, rfl, rfl, rfl, rfl, rfl, rfl, rfl, rfl, rfl, rfl, rfl, rfl, rfl, rfl, rfl, rfl, trivial⟩, ⟨⟨0, rfl⟩, ⟨1, rfl⟩, ⟨2, rfl⟩, ⟨3, rfl⟩, ⟨4, rfl⟩, trivial⟩, rfl, by decide, rfl, by decide⟩
            refine VAll.consG (listed' := LB 10 319) rfl (o_alloc (us := [.slice none 0 0, .int .i64 0]) Z24 rfl (ltn rfl)) rfl (by kernel_rfl) (fun _ => ⟨trivial, ⟨⟨8, rfl⟩, trivial⟩, trivial⟩) ?_ VAll.nil
            intro g19546
            refine VA.oneG (i := 6) (listed' := LB 10 383) (by kernel_rfl) rfl (o_append 0 appm Try.underlying22 EI26 rfl rfl rfl (.inl ⟨4, rfl⟩) (bndm c19543) (ltn rfl)) rfl (by kernel_rfl) (fun _ => ⟨trivial, ⟨⟨8, rfl⟩, trivial⟩, trivial⟩) ?_
            intro v19544
            refine VA.more ⟨0, [], [], [(g2, 24, [v22, .int .i64 t19])], [(v19544, 26, 6, (([] : List S25) ++ r18).map enc25)]⟩ ⟨trivial, ⟨⟨0, rfl⟩, trivial⟩, trivial⟩ ?_
            refine VA.va (i := 7) (listed' := LB 10 511) rfl (op_build (vals := [(1, .int .i64 (wrap64 (t19 + 1))), (0, v19544)]) (vcs := [(1, [.int .i64 (wrap64 (t19 + 1))]), (0, [v19544])]) (cells := [v19544, .int .i64 (wrap64 (t19 + 1))]) SI24 rfl (.cons ⟨rfl, (.c rfl)⟩ (.cons ⟨rfl, (.r 0 rfl)⟩ .nil)) (by kernel_rfl) (ltn rfl)) rfl (by kernel_rfl) (by kernel_rfl) (by kernel_rfl) (by kernel_rfl) ⟨trivial, ⟨⟨8, rfl⟩, trivial⟩, ⟨⟨0, rfl⟩, trivial⟩⟩ (fun _ _ _ h => h) ?_
            refine VA.one1 (i := 9) (listed' := LB 10 1023) (by kernel_rfl) rfl (o_store 0 2 rfl rfl rfl TI24 (.agg (.r 0 rfl (.c rfl .nil))) rfl (len rfl)) rfl (by kernel_rfl) ⟨trivial, ⟨⟨8, rfl⟩, trivial⟩, ⟨⟨0, rfl⟩, trivial⟩⟩ ?_
            refine VA.done (by kernel_rfl) ?_
            exact VN.meet2 g19546 v19544 [0, 1, 2, 3, 4, 5, 6, 7, 8] [0] trivial ⟨rfl, ⟨rfl, rfl, rfl, rfl, rfl, rfl, rfl, rfl, rfl, rfl, rfl, rfl, rfl, rfl, rfl, rfl, rfl, trivial⟩, ⟨⟨0, rfl⟩, ⟨1, rfl⟩, ⟨2, rfl⟩, ⟨3, rfl⟩, ⟨4, rfl⟩, trivial⟩, rfl, by decide, rfl, by decide⟩
          refine VAll.consG (listed' := LB 10 311) rfl (o_alloc (us := [.slice none 0 0, .int .i64 0]) Z24 rfl (ltn rfl)) rfl (by kernel_rfl) (fun _ => ⟨trivial, ⟨⟨8, rfl⟩, trivial⟩, trivial⟩) ?_ VAll.nil
          intro g19546
          refine VA.oneG (i := 3) (listed' := LB 10 319) (by kernel_rfl) rfl (o_buildSlice (vals := []) (cells := #[]) (es := List.map enc25 ([] : List S25)) Try.underlying22 TI26 Z26 rfl (by decide) (by decide) (by kernel_rfl) (by kernel_rfl) rfl (flat_map enc25_ok _) (ltn rfl)) rfl (by kernel_rfl) (fun _ => ⟨trivial, ⟨⟨8, rfl⟩, trivial⟩, trivial⟩) ?_
          intro v19542
          refine VA.oneG (i := 6) (listed' := LB 10 383) (by kernel_rfl) rfl (o_append 0 appm Try.underlying22 EI26 rfl rfl rfl (.inl ⟨4, rfl⟩) (bndm c19543) (ltn rfl)) rfl (by kernel_rfl) (fun _ => ⟨trivial, ⟨⟨8, rfl⟩, trivial⟩, trivial⟩) ?_
          intro v19544
          refine VA.more ⟨0, [], [], [(g2, 24, [v22, .int .i64 t19])], [(v19544, 26, 6, (([] : List S25) ++ r18).map enc25)]⟩ ⟨trivial, ⟨⟨0, rfl⟩, trivial⟩, trivial⟩ ?_
          refine VA.va (i := 7) (listed' := LB 10 511) rfl (op_build (vals := [(1, .int .i64 (wrap64 (t19 + 1))), (0, v19544)]) (vcs := [(1, [.int .i64 (wrap64 (t19 + 1))]), (0, [v19544])]) (cells := [v19544, .int .i64 (wrap64 (t19 + 1))]) SI24 rfl (.cons ⟨rfl, (.c rfl)⟩ (.cons ⟨rfl, (.r 0 rfl)⟩ .nil)) (by kernel_rfl) (ltn rfl)) rfl (by kernel_rfl) (by kernel_rfl) (by kernel_rfl) (by kernel_rfl) ⟨trivial, ⟨⟨8, rfl⟩, trivial⟩, ⟨⟨0, rfl⟩, trivial⟩⟩ (fun _ _ _ h => h) ?_
          refine VA.one1 (i := 9) (listed' := LB 10 1023) (by kernel_rfl) rfl (o_store 0 2 rfl rfl rfl TI24 (.agg (.r 0 rfl (.c rfl .nil))) rfl (len rfl)) rfl (by kernel_rfl) ⟨trivial, ⟨⟨8, rfl⟩, trivial⟩, ⟨⟨0, rfl⟩, trivial⟩⟩ ?_
          refine VA.done (by kernel_rfl) ?_
          exact VN.meet2 g19546 v19544 [0, 1, 2, 3, 4, 5, 6, 7, 8] [0] trivial ⟨rfl, ⟨rfl, rfl, rfl, rfl, rfl, rfl, rfl, rfl, rfl, rfl, rfl, rfl, rfl, rfl, rfl, rfl, rfl, trivial⟩, ⟨⟨0, rfl⟩, ⟨1, rfl⟩, ⟨2, rfl⟩, ⟨3, rfl⟩, ⟨4, rfl⟩, trivial⟩, rfl, by decide, rfl, by decide⟩
        intro g19546 v19544 _
        refine VC.seq ?_
        refine VC.region ?_
        refine VL.va (op_load 7 6 rfl rfl TI26 rfl (fun h => absurd h (by decide)) (ltn rfl)) rfl ?_
        refine VL.sG (o_alloc (us := [.int .i64 0, .bool false, .int .i64 0, .int .i64 0, .int .i64 0, .bool false]) Z26 rfl (ltn rfl)) rfl ?_
        intro g19547
        refine VL.step1 (o_store 0 6 rfl rfl rfl TI26 (.agg (.c rfl (.c rfl (.c rfl (.c rfl (.c rfl (.c rfl .nil))))))) rfl (len rfl)) rfl ?_
        refine VL.done ?_
        refine VN.then ?_
        refine VC.seq ?_
        refine VC.region ?_
        refine VL.va (op_fieldAddr FI24_1 rfl (add_at _ _ _) (ltn rfl)) rfl ?_
        refine VL.va (op_load 1 1 rfl rfl TI3 rfl (by decide) (ltn rfl)) rfl ?_
        refine VL.va (op_fieldAddr FI26_0 rfl (add_at _ _ _) (ltn rfl)) rfl ?_
        refine VL.step1 (o_store 0 1 rfl rfl rfl TI3 (.c rfl) rfl (len rfl)) rfl ?_
        refine VL.done ?_
        refine VN.then ?_
        refine VC.seq ?_
        refine VC.region ?_
        refine VL.va (op_fieldAddr FI24_0 rfl (add_at _ _ _) (ltn rfl)) rfl ?_
        refine VL.va (op_load 1 1 rfl rfl TI22 rfl (by decide) (ltn rfl)) rfl ?_
        refine VL.va (op_load 0 6 rfl rfl TI26 rfl (fun h => absurd h (by decide)) (ltn rfl)) rfl ?_
        refine VL.sG (o_buildSlice (vals := [(0, .agg #[.int .i64 (wrap64 (t19 + 1)), .bool a1_1, .int .i64 a1_2, .int .i64 a1_3, .int .i64 a1_4, .bool a1_5])]) (cells := #[.int .i64 (wrap64 (t19 + 1)), .bool a1_1, .int .i64 a1_2, .int .i64 a1_3, .int .i64 a1_4, .bool a1_5]) (es := List.map enc25 ([(⟨wrap64 (t19 + 1), a1_1, a1_2, a1_3, a1_4, a1_5⟩ : S25)] : List S25)) Try.underlying22 TI26 Z26 rfl (by decide) (by decide) (by kernel_rfl) (by kernel_rfl) rfl (flat_map enc25_ok _) (ltn rfl)) rfl ?_
        intro v19549
        by_cases c19550 : ((([] : List S25) ++ r18).length + ([(⟨wrap64 (t19 + 1), a1_1, a1_2, a1_3, a1_4, a1_5⟩ : S25)] : List S25).length) * 48 ≤ 140737488355328
        · rw [if_pos c19550] at h
          refine VL.sG (o_append 1 appm Try.underlying22 EI26 rfl rfl rfl (.inr ⟨0, _, rfl⟩) (bndm c19550) (ltn rfl)) rfl ?_
          intro v19551
          refine VL.va (op_fieldAddr FI24_0 rfl (add_at _ _ _) (ltn rfl)) rfl ?_
          refine VL.step1 (o_store 1 1 rfl rfl rfl TI22 (.r 1 rfl) rfl (len rfl)) rfl ?_
          refine VL.done ?_
          refine VN.then ?_
          refine VC.join0 (⟨261, [(2, .int .i64 a2), (3, .pointer (some ⟨g2, 0, none⟩)), (6, .bool false), (10, .pointer (some ⟨g557, 0, none⟩)), (11, .pointer (some ⟨g558, 0, none⟩)), (12, .int .i64 t553), (13, .pointer (some ⟨g634, 0, none⟩)), (14, .int .i64 t630), (15, .pointer (some ⟨g696, 0, none⟩)), (16, .int .i64 t692), (17, .pointer (some ⟨g697, 0, none⟩)), (18, .int .i64 i19540)], [.row v695 6 (r690.map enc25), .row v633 6 (r628.map enc25), .row v556 6 (r545.map enc25), .row v22 6 (r18.map enc25)], [(g697, 24, [.slice none 0 0, .int .i64 0]), (g696, 24, [v695, .int .i64 t691]), (g634, 24, [v633, .int .i64 t629]), (g558, 26, [.int .i64 t547, .bool t548, .int .i64 t549, .int .i64 t550, .int .i64 t551, .bool t552]), (g557, 24, [v556, .int .i64 t546]), (g2, 24, [v22, .int .i64 t19])], []⟩) (tarrylaw15_NetGoes.j77 k a2 r18 r545 r628 r690 t19 t546 t547 t548 t549 t550 t551 t552 t553 t629 t630 t691 t692 = some r1) ?_ ?_
          · refine VC.seq ?_
            refine VC.region ?_
            refine VL.va (op_move rfl (ltn rfl)) rfl ?_
            refine VL.va (op_move rfl (ltn rfl)) rfl ?_
            refine VL.letter ((t437 != i19540)) fun b26526 hb26526 => ?_
            refine VL.va (op_cmp rfl rfl (congrArg some hb26526) (ltn rfl)) rfl ?_
            refine VL.va (op_move rfl (ltn rfl)) rfl ?_
            by_cases c26527 : t437 = i19540
            · rw [if_pos c26527] at h
              obtain rfl : b26526 = false := hb26526.symm.trans (bne_eq_false_iff_eq.2 c26527)
              refine VL.va (op_move rfl (ltn rfl)) rfl ?_
              refine VL.letter ((i19540 == 0)) fun b26528 hb26528 => ?_
              refine VL.va (op_cmp rfl rfl (congrArg some hb26528) (ltn rfl)) rfl ?_
              refine VL.va (op_move rfl (ltn rfl)) rfl ?_
              by_cases c26529 : i19540 = 0
              · rw [if_pos c26529] at h
                obtain rfl : b26528 = true := hb26528.symm.trans (beq_iff_eq.2 c26529)
                refine VL.va (op_move rfl (ltn rfl)) rfl ?_
                refine VL.va (op_fieldAddr FI26_0 rfl (add_at _ _ _) (ltn rfl)) rfl ?_
                refine VL.va (op_load 0 1 rfl rfl TI3 rfl (by decide) (ltn rfl)) rfl ?_
                refine VL.letter ((t436 != (wrap64 (t19 + 1)))) fun b26530 hb26530 => ?_
                refine VL.va (op_cmp rfl rfl (congrArg some hb26530) (ltn rfl)) rfl ?_
                refine VL.va (op_move rfl (ltn rfl)) rfl ?_
                by_cases c26531 : t436 = (wrap64 (t19 + 1))
                · rw [if_pos c26531] at h
                  obtain rfl : b26530 = false := hb26530.symm.trans (bne_eq_false_iff_eq.2 c26531)
                  refine VL.va (op_load 7 2 rfl rfl TI24 rfl (fun h => absurd h (by decide)) (ltn rfl)) rfl ?_
                  refine VL.va (op_load 1 2 rfl rfl TI24 rfl (fun h => absurd h (by decide)) (ltn rfl)) rfl ?_
                  replace h := Option.bind_eq_some_iff.1 h
                  obtain ⟨t26532, hA26533, h⟩ := h
                  refine VL.sC (o_call_b0 FO15 (tarrylaw15_like.ok k r434 t435 ((([] : List S25) ++ r18) ++ ([(⟨wrap64 (t19 + 1), a1_1, a1_2, a1_3, a1_4, a1_5⟩ : S25)] : List S25)) (wrap64 (t19 + 1)) v440 v19551 t26532 hA26533) rfl rfl (ltn rfl) (All_of (.cons (.inl (List.mem_of_getElem? (i := 3) rfl)) (.cons (.inr (.inl ⟨_, List.mem_of_getElem? (i := 1) rfl, rfl⟩)) .nil))) (by rintro _ _ _ ⟨rfl, rfl, rfl⟩; rfl)) rfl ?_
                  rintro _ _ _ ⟨rfl, rfl, rfl⟩
                  by_cases c26534 : t26532 = true
                  · rw [if_pos c26534] at h
                    obtain rfl := c26534
                    refine VL.va (op_not rfl rfl (ltn rfl)) rfl ?_
                    refine VL.va (op_pick rfl rfl (ltn rfl)) rfl ?_
                    refine VL.va (op_pick rfl rfl (ltn rfl)) rfl ?_
                    refine VL.va (op_pick rfl rfl (ltn rfl)) rfl ?_
                    refine VL.va (op_move rfl (ltn rfl)) rfl ?_
                    refine VL.va (op_move rfl (ltn rfl)) rfl ?_
                    refine VL.letter ((i19540 != 0)) fun b26535 hb26535 => ?_
                    refine VL.va (op_cmp rfl rfl (congrArg some hb26535) (ltn rfl)) rfl ?_
                    refine VL.va (op_move rfl (ltn rfl)) rfl ?_
                    by_cases c26536 : i19540 = 0
                    · rw [if_pos c26536] at h
                      obtain rfl : b26535 = false := hb26535.symm.trans (bne_eq_false_iff_eq.2 c26536)
                      refine VL.un rfl rfl (ltn rfl) ?_
                      refine VL.un rfl rfl (ltn rfl) ?_
                      refine VL.un rfl rfl (ltn rfl) ?_
                      refine VL.un rfl rfl (ltn rfl) ?_
                      refine VL.un rfl rfl (ltn rfl) ?_
                      refine VL.un rfl rfl (ltn rfl) ?_
                      refine VL.un rfl rfl (ltn rfl) ?_
                      refine VL.un rfl rfl (ltn rfl) ?_
                      refine VL.va (op_pick rfl rfl (ltn rfl)) rfl ?_
                      refine VL.va (op_pick rfl rfl (ltn rfl)) rfl ?_
                      refine VL.done ?_
                      refine VN.then ?_
                      refine VC.cond_f rfl ?_
                      refine VC.skip ?_
                      refine VN.meet0  [2, 3, 4, 5, 6, 9] [] h ⟨rfl, ⟨rfl, rfl, rfl, rfl, rfl, rfl, rfl, rfl, rfl, rfl, rfl, rfl, trivial⟩, ⟨⟨0, rfl⟩, ⟨1, rfl⟩, ⟨2, rfl⟩, ⟨4, rfl⟩, trivial⟩, rfl, by decide, rfl, by decide⟩
                    · rw [if_neg c26536] at h
                      obtain rfl : b26535 = true := hb26535.symm.trans (bne_iff_ne.2 c26536)
                      refine VL.va (op_move rfl (ltn rfl)) rfl ?_
                      refine VL.letter ((t436 != 0)) fun b26537 hb26537 => ?_
                      refine VL.va (op_cmp rfl rfl (congrArg some hb26537) (ltn rfl)) rfl ?_
                      refine VL.va (op_move rfl (ltn rfl)) rfl ?_
                      by_cases c26538 : t436 = 0
                      · rw [if_pos c26538] at h
                        obtain rfl : b26537 = false := hb26537.symm.trans (bne_eq_false_iff_eq.2 c26538)
                        refine VL.va (op_load 7 2 rfl rfl TI24 rfl (fun h => absurd h (by decide)) (ltn rfl)) rfl ?_
                        refine VL.va (op_load 2 2 rfl rfl TI24 rfl (fun h => absurd h (by decide)) (ltn rfl)) rfl ?_
                        refine VL.nilFact' 6 ?_
                        replace h := Option.bind_eq_some_iff.1 h
                        obtain ⟨t26540, hA26541, h⟩ := h
                        refine VL.sC (o_call0 FO15 (tarrylaw15_like.ok k r434 t435 [] 0 v440 (.slice none 0 0) t26540 hA26541) rfl rfl (ltn rfl) (All_of (.cons (List.mem_of_getElem? (i := 4) rfl) (.cons (List.mem_of_getElem? (i := 0) rfl) .nil)))) rfl ?_
                        rintro _ _ _ ⟨rfl, rfl, rfl⟩
                        by_cases c26542 : t26540 = true
                        · rw [if_pos c26542] at h
                          obtain rfl := c26542
                          refine VL.va (op_not rfl rfl (ltn rfl)) rfl ?_
                          refine VL.va (op_pick rfl rfl (ltn rfl)) rfl ?_
                          refine VL.va (op_pick rfl rfl (ltn rfl)) rfl ?_
                          refine VL.va (op_pick rfl rfl (ltn rfl)) rfl ?_
                          refine VL.done ?_
                          refine VN.then ?_
                          refine VC.cond_f rfl ?_
                          refine VC.skip ?_
                          refine VN.meet0  [2, 3, 4, 5, 6, 9] [] h ⟨rfl, ⟨rfl, rfl, rfl, rfl, rfl, rfl, rfl, rfl, rfl, rfl, rfl, rfl, trivial⟩, ⟨⟨1, rfl⟩, ⟨2, rfl⟩, ⟨3, rfl⟩, ⟨5, rfl⟩, trivial⟩, rfl, by decide, rfl, by decide⟩
                        · rw [if_neg c26542] at h
                          obtain rfl := Bool.eq_false_iff.2 c26542
                          refine VL.va (op_not rfl rfl (ltn rfl)) rfl ?_
                          refine VL.va (op_pick rfl rfl (ltn rfl)) rfl ?_
                          refine VL.va (op_pick rfl rfl (ltn rfl)) rfl ?_
                          refine VL.va (op_pick rfl rfl (ltn rfl)) rfl ?_
                          refine VL.done ?_
                          refine VN.then ?_
                          refine VC.cond_t rfl ?_
                          refine VC.seq ?_
                          refine VC.region ?_
                          refine VL.va (op_assign rfl (ltn rfl)) rfl ?_
                          refine VL.done ?_
                          refine VN.then ?_
                          refine VC.ret ?_
                          refine VR.then ?_
                          cases h
                      · rw [if_neg c26538] at h
                        obtain rfl : b26537 = true := hb26537.symm.trans (bne_iff_ne.2 c26538)
                        refine VL.un rfl rfl (ltn rfl) ?_
                        refine VL.un rfl rfl (ltn rfl) ?_
                        refine VL.un rfl rfl (ltn rfl) ?_
                        refine VL.un rfl rfl (ltn rfl) ?_
                        refine VL.va (op_pick rfl rfl (ltn rfl)) rfl ?_
                        refine VL.va (op_pick rfl rfl (ltn rfl)) rfl ?_
                        refine VL.va (op_pick rfl rfl (ltn rfl)) rfl ?_
                        refine VL.done ?_
                        refine VN.then ?_
                        refine VC.cond_t rfl ?_
                        refine VC.seq ?_
                        refine VC.region ?_
                        refine VL.va (op_assign rfl (ltn rfl)) rfl ?_
                        refine VL.done ?_
                        refine VN.then ?_
                        refine VC.ret ?_
                        refine VR.then ?_
                        cases h
                  · rw [if_neg c26534] at h
                    obtain rfl := Bool.eq_false_iff.2 c26534
                    refine VL.va (op_not rfl rfl (ltn rfl)) rfl ?_
                    refine VL.va (op_pick rfl rfl (ltn rfl)) rfl ?_
                    refine VL.va (op_pick rfl rfl (ltn rfl)) rfl ?_
                    refine VL.va (op_pick rfl rfl (ltn rfl)) rfl ?_
                    refine VL.va (op_move rfl (ltn rfl)) rfl ?_
                    refine VL.un rfl rfl (ltn rfl) ?_
                    refine VL.un rfl rfl (ltn rfl) ?_
                    refine VL.un rfl rfl (ltn rfl) ?_
                    refine VL.un rfl rfl (ltn rfl) ?_
                    refine VL.un rfl rfl (ltn rfl) ?_
                    refine VL.un rfl rfl (ltn rfl) ?_
                    refine VL.un rfl rfl (ltn rfl) ?_
                    refine VL.un rfl rfl (ltn rfl) ?_
                    refine VL.un rfl rfl (ltn rfl) ?_
                    refine VL.un rfl rfl (ltn rfl) ?_
                    refine VL.un rfl rfl (ltn rfl) ?_
                    refine VL.un rfl rfl (ltn rfl) ?_
                    refine VL.va (op_pick rfl rfl (ltn rfl)) rfl ?_
                    refine VL.done ?_
                    refine VN.then ?_
                    refine VC.cond_t rfl ?_
                    refine VC.seq ?_
                    refine VC.region ?_
                    refine VL.va (op_assign rfl (ltn rfl)) rfl ?_
                    refine VL.done ?_
                    refine VN.then ?_
                    refine VC.ret ?_
                    refine VR.then ?_
                    cases h
                · rw [if_neg c26531] at h
                  obtain rfl : b26530 = true := hb26530.symm.trans (bne_iff_ne.2 c26531)
                  refine VL.un rfl rfl (ltn rfl) ?_
                  refine VL.un rfl rfl (ltn rfl) ?_
                  refine VL.un rfl rfl (ltn rfl) ?_
                  refine VL.un rfl rfl (ltn rfl) ?_
                  refine VL.va (op_pick rfl rfl (ltn rfl)) rfl ?_
                  refine VL.va (op_pick rfl rfl (ltn rfl)) rfl ?_
                  refine VL.va (op_pick rfl rfl (ltn rfl)) rfl ?_
                  refine VL.va (op_move rfl (ltn rfl)) rfl ?_
                  refine VL.un rfl rfl (ltn rfl) ?_
                  refine VL.un rfl rfl (ltn rfl) ?_
                  refine VL.un rfl rfl (ltn rfl) ?_
                  refine VL.un rfl rfl (ltn rfl) ?_
                  refine VL.un rfl rfl (ltn rfl) ?_
                  refine VL.un rfl rfl (ltn rfl) ?_
                  refine VL.un rfl rfl (ltn rfl) ?_
                  refine VL.un rfl rfl (ltn rfl) ?_
                  refine VL.un rfl rfl (ltn rfl) ?_
                  refine VL.un rfl rfl (ltn rfl) ?_
                  refine VL.un rfl rfl (ltn rfl) ?_
                  refine VL.un rfl rfl (ltn rfl) ?_
                  refine VL.va (op_pick rfl rfl (ltn rfl)) rfl ?_
                  refine VL.done ?_
                  refine VN.then ?_
                  refine VC.cond_t rfl ?_
                  refine VC.seq ?_
                  refine VC.region ?_
                  refine VL.va (op_assign rfl (ltn rfl)) rfl ?_
                  refine VL.done ?_
                  refine VN.then ?_
                  refine VC.ret ?_
                  refine VR.then ?_
                  cases h
              · rw [if_neg c26529] at h
                obtain rfl : b26528 = false := hb26528.symm.trans (beq_eq_false_iff_ne.2 c26529)
                refine VL.un rfl rfl (ltn rfl) ?_
                refine VL.un rfl rfl (ltn rfl) ?_
                refine VL.un rfl rfl (ltn rfl) ?_
                refine VL.un rfl rfl (ltn rfl) ?_
                refine VL.un rfl rfl (ltn rfl) ?_
                refine VL.un rfl rfl (ltn rfl) ?_
                refine VL.un rfl rfl (ltn rfl) ?_
                refine VL.un rfl rfl (ltn rfl) ?_
                refine VL.un rfl rfl (ltn rfl) ?_
                refine VL.un rfl rfl (ltn rfl) ?_
                refine VL.va (op_pick rfl rfl (ltn rfl)) rfl ?_
                refine VL.va (op_pick rfl rfl (ltn rfl)) rfl ?_
                refine VL.va (op_move rfl (ltn rfl)) rfl ?_
                refine VL.va (op_move rfl (ltn rfl)) rfl ?_
                refine VL.letter ((i19540 != 0)) fun b26543 hb26543 => ?_
                refine VL.va (op_cmp rfl rfl (congrArg some hb26543) (ltn rfl)) rfl ?_
                refine VL.va (op_move rfl (ltn rfl)) rfl ?_
                by_cases c26544 : i19540 = 0
                · rw [if_pos c26544] at h
                  obtain rfl : b26543 = false := hb26543.symm.trans (bne_eq_false_iff_eq.2 c26544)
                  refine VL.un rfl rfl (ltn rfl) ?_
                  refine VL.un rfl rfl (ltn rfl) ?_
                  refine VL.un rfl rfl (ltn rfl) ?_
                  refine VL.un rfl rfl (ltn rfl) ?_
                  refine VL.un rfl rfl (ltn rfl) ?_
                  refine VL.un rfl rfl (ltn rfl) ?_
                  refine VL.un rfl rfl (ltn rfl) ?_
                  refine VL.un rfl rfl (ltn rfl) ?_
                  refine VL.va (op_pick rfl rfl (ltn rfl)) rfl ?_
                  refine VL.va (op_pick rfl rfl (ltn rfl)) rfl ?_
                  refine VL.done ?_
                  refine VN.then ?_
                  refine VC.cond_f rfl ?_
                  refine VC.skip ?_
                  refine VN.meet0  [2, 3, 4, 5, 6, 9] [] h ⟨rfl, ⟨rfl, rfl, rfl, rfl, rfl, rfl, rfl, rfl, rfl, rfl, rfl, rfl, trivial⟩, ⟨⟨0, rfl⟩, ⟨1, rfl⟩, ⟨2, rfl⟩, ⟨4, rfl⟩, trivial⟩, rfl, by decide, rfl, by decide⟩
                · rw [if_neg c26544] at h
                  obtain rfl : b26543 = true := hb26543.symm.trans (bne_iff_ne.2 c26544)
                  refine VL.va (op_move rfl (ltn rfl)) rfl ?_
                  refine VL.letter ((t436 != 0)) fun b26545 hb26545 => ?_
                  refine VL.va (op_cmp rfl rfl (congrArg some hb26545) (ltn rfl)) rfl ?_
                  refine VL.va (op_move rfl (ltn rfl)) rfl ?_
                  by_cases c26546 : t436 = 0
                  · rw [if_pos c26546] at h
                    obtain rfl : b26545 = false := hb26545.symm.trans (bne_eq_false_iff_eq.2 c26546)
                    refine VL.va (op_load 7 2 rfl rfl TI24 rfl (fun h => absurd h (by decide)) (ltn rfl)) rfl ?_
                    refine VL.va (op_load 2 2 rfl rfl TI24 rfl (fun h => absurd h (by decide)) (ltn rfl)) rfl ?_
                    refine VL.nilFact' 6 ?_
                    replace h := Option.bind_eq_some_iff.1 h
                    obtain ⟨t26548, hA26549, h⟩ := h
                    refine VL.sC (o_call0 FO15 (tarrylaw15_like.ok k r434 t435 [] 0 v440 (.slice none 0 0) t26548 hA26549) rfl rfl (ltn rfl) (All_of (.cons (List.mem_of_getElem? (i := 4) rfl) (.cons (List.mem_of_getElem? (i := 0) rfl) .nil)))) rfl ?_
                    rintro _ _ _ ⟨rfl, rfl, rfl⟩
                    by_cases c26550 : t26548 = true
                    · rw [if_pos c26550] at h
                      obtain rfl := c26550
                      refine VL.va (op_not rfl rfl (ltn rfl)) rfl ?_
                      refine VL.va (op_pick rfl rfl (ltn rfl)) rfl ?_
                      refine VL.va (op_pick rfl rfl (ltn rfl)) rfl ?_
                      refine VL.va (op_pick rfl rfl (ltn rfl)) rfl ?_
                      refine VL.done ?_
                      refine VN.then ?_
                      refine VC.cond_f rfl ?_
                      refine VC.skip ?_
                      refine VN.meet0  [2, 3, 4, 5, 6, 9] [] h ⟨rfl, ⟨rfl, rfl, rfl, rfl, rfl, rfl, rfl, rfl, rfl, rfl, rfl, rfl, trivial⟩, ⟨⟨1, rfl⟩, ⟨2, rfl⟩, ⟨3, rfl⟩, ⟨5, rfl⟩, trivial⟩, rfl, by decide, rfl, by decide⟩
                    · rw [if_neg c26550] at h
                      obtain rfl := Bool.eq_false_iff.2 c26550
                      refine VL.va (op_not rfl rfl (ltn rfl)) rfl ?_
                      refine VL.va (op_pick rfl rfl (ltn rfl)) rfl ?_
                      refine VL.va (op_pick rfl rfl (ltn rfl)) rfl ?_
                      refine VL.va (op_pick rfl rfl (ltn rfl)) rfl ?_
                      refine VL.done ?_
                      refine VN.then ?_
                      refine VC.cond_t rfl ?_
                      refine VC.seq ?_
                      refine VC.region ?_
                      refine VL.va (op_assign rfl (ltn rfl)) rfl ?_
                      refine VL.done ?_
                      refine VN.then ?_
                      refine VC.ret ?_
                      refine VR.then ?_
                      cases h
                  · rw [if_neg c26546] at h
                    obtain rfl : b26545 = true := hb26545.symm.trans (bne_iff_ne.2 c26546)
                    refine VL.un rfl rfl (ltn rfl) ?_
                    refine VL.un rfl rfl (ltn rfl) ?_
                    refine VL.un rfl rfl (ltn rfl) ?_
                    refine VL.un rfl rfl (ltn rfl) ?_
                    refine VL.va (op_pick rfl rfl (ltn rfl)) rfl ?_
                    refine VL.va (op_pick rfl rfl (ltn rfl)) rfl ?_
                    refine VL.va (op_pick rfl rfl (ltn rfl)) rfl ?_
                    refine VL.done ?_
                    refine VN.then ?_
                    refine VC.cond_t rfl ?_
                    refine VC.seq ?_
                    refine VC.region ?_
                    refine VL.va (op_assign rfl (ltn rfl)) rfl ?_
                    refine VL.done ?_
                    refine VN.then ?_
                    refine VC.ret ?_
                    refine VR.then ?_
                    cases h
            · rw [if_neg c26527] at h
              obtain rfl : b26526 = true := hb26526.symm.trans (bne_iff_ne.2 c26527)
              refine VL.un rfl rfl (ltn rfl) ?_
              refine VL.un rfl rfl (ltn rfl) ?_
              refine VL.un rfl rfl (ltn rfl) ?_
              refine VL.un rfl rfl (ltn rfl) ?_
              refine VL.un rfl rfl (ltn rfl) ?_
              refine VL.un rfl rfl (ltn rfl) ?_
              refine VL.un rfl rfl (ltn rfl) ?_
              refine VL.un rfl rfl (ltn rfl) ?_
              refine VL.un rfl rfl (ltn rfl) ?_
              refine VL.un rfl rfl (ltn rfl) ?_
              refine VL.un rfl rfl (ltn rfl) ?_
              refine VL.un rfl rfl (ltn rfl) ?_
              refine VL.un rfl rfl (ltn rfl) ?_
              refine VL.un rfl rfl (ltn rfl) ?_
              refine VL.va (op_pick rfl rfl (ltn rfl)) rfl ?_
              refine VL.va (op_move rfl (ltn rfl)) rfl ?_
              refine VL.un rfl rfl (ltn rfl) ?_
              refine VL.un rfl rfl (ltn rfl) ?_
              refine VL.un rfl rfl (ltn rfl) ?_
              refine VL.un rfl rfl (ltn rfl) ?_
              refine VL.un rfl rfl (ltn rfl) ?_
              refine VL.un rfl rfl (ltn rfl) ?_
              refine VL.un rfl rfl (ltn rfl) ?_
              refine VL.un rfl rfl (ltn rfl) ?_
              refine VL.un rfl rfl (ltn rfl) ?_
              refine VL.un rfl rfl (ltn rfl) ?_
              refine VL.un rfl rfl (ltn rfl) ?_
              refine VL.un rfl rfl (ltn rfl) ?_
              refine VL.va (op_pick rfl rfl (ltn rfl)) rfl ?_
              refine VL.done ?_
              refine VN.then ?_
              refine VC.cond_t rfl ?_
              refine VC.seq ?_
              refine VC.region ?_
              refine VL.va (op_assign rfl (ltn rfl)) rfl ?_
              refine VL.done ?_
              refine VN.then ?_
              refine VC.ret ?_
              refine VR.then ?_
              cases h
          intro  h
          unfold tarrylaw15_NetGoes.j77 at h
          refine VC.seq ?_
          refine VC.region ?_
          refine VL.va (op_assign rfl (ltn rfl)) rfl ?_
          refine VL.done ?_
          refine VN.then ?_
          refine VC.join1 (fun (i27712 : Int) => ⟨261, [(2, .int .i64 a2), (3, .pointer (some ⟨g2, 0, none⟩)), (6, .bool false), (10, .pointer (some ⟨g557, 0, none⟩)), (11, .pointer (some ⟨g558, 0, none⟩)), (12, .int .i64 t553), (13, .pointer (some ⟨g634, 0, none⟩)), (14, .int .i64 t630), (15, .pointer (some ⟨g696, 0, none⟩)), (16, .int .i64 t692), (17, .pointer (some ⟨g697, 0, none⟩)), (18, .int .i64 i27712)], [.row v695 6 (r690.map enc25), .row v633 6 (r628.map enc25), .row v556 6 (r545.map enc25), .row v22 6 (r18.map enc25)], [(g697, 24, [.slice none 0 0, .int .i64 0]), (g696, 24, [v695, .int .i64 t691]), (g634, 24, [v633, .int .i64 t629]), (g558, 26, [.int .i64 t547, .bool t548, .int .i64 t549, .int .i64 t550, .int .i64 t551, .bool t552]), (g557, 24, [v556, .int .i64 t546]), (g2, 24, [v22, .int .i64 t19])], []⟩) (fun (i27712 : Int) => tarrylaw15_NetGoes.j81 k a2 r18 r545 r628 r690 t19 t546 t547 t548 t549 t550 t551 t552 t553 t629 t630 t691 t692 i27712 = some r1) ?_ ?_
          · refine VC.seq ?_
            refine VC.region ?_
            refine VL.va (op_load 5 2 rfl rfl TI24 rfl (fun h => absurd h (by decide)) (ltn rfl)) rfl ?_
            replace h := Option.bind_eq_some_iff.1 h
            obtain ⟨t27702, hA27703, h⟩ := h
            refine VL.sC (o_call0 FO12 (tarrylaw15_right.ok k r18 t19 v22 t27702 hA27703) rfl rfl (ltn rfl) (All_of (.cons (List.mem_of_getElem? (i := 3) rfl) .nil))) rfl ?_
            rintro _ _ _ ⟨rfl, rfl, rfl⟩
            by_cases c27704 : t27702 = true
            · rw [if_pos c27704] at h
              obtain rfl := c27704
              refine VL.va (op_not rfl rfl (ltn rfl)) rfl ?_
              refine VL.done ?_
              refine VN.then ?_
              refine VC.cond_f rfl ?_
              refine VC.seq ?_
              refine VC.region ?_
              refine VL.va (op_move rfl (ltn rfl)) rfl ?_
              refine VL.letter (decide (a2 < 0)) fun b27708 hb27708 => ?_
              refine VL.va (op_cmp rfl rfl (congrArg some hb27708) (ltn rfl)) rfl ?_
              refine VL.va (op_move rfl (ltn rfl)) rfl ?_
              by_cases c27709 : a2 < 0
              · rw [if_pos c27709] at h
                obtain rfl : b27708 = true := hb27708.symm.trans (decide_eq_true c27709)
                refine VL.un rfl rfl (ltn rfl) ?_
                refine VL.un rfl rfl (ltn rfl) ?_
                refine VL.un rfl rfl (ltn rfl) ?_
                refine VL.un rfl rfl (ltn rfl) ?_
                refine VL.un rfl rfl (ltn rfl) ?_
                refine VL.va (op_pick rfl rfl (ltn rfl)) rfl ?_
                refine VL.done ?_
                refine VN.then ?_
                refine VC.cond_t rfl ?_
                refine VC.region ?_
                refine VL.va (op_assign rfl (ltn rfl)) rfl ?_
                refine VL.done ?_
                refine VN.meet1 8 [0, 1, 2, 3, 4, 5] [] h ⟨rfl, ⟨rfl, rfl, rfl, rfl, rfl, rfl, rfl, rfl, rfl, rfl, rfl, rfl, trivial⟩, ⟨⟨0, rfl⟩, ⟨1, rfl⟩, ⟨2, rfl⟩, ⟨3, rfl⟩, trivial⟩, rfl, by decide, rfl, by decide⟩
              · rw [if_neg c27709] at h
                obtain rfl : b27708 = false := hb27708.symm.trans (decide_eq_false c27709)
                refine VL.va (op_move rfl (ltn rfl)) rfl ?_
                refine VL.va (op_fieldAddr FI24_0 rfl (add_at _ _ _) (ltn rfl)) rfl ?_
                refine VL.va (op_load 5 1 rfl rfl TI22 rfl (by decide) (ltn rfl)) rfl ?_
                refine VL.va (op_len (m := r18.length) 3 lenm Try.underlying22 rfl rfl (ltn rfl)) rfl ?_
                refine VL.letter (decide (a2 ≥ (r18.length : Int))) fun b27710 hb27710 => ?_
                refine VL.va (op_cmp rfl rfl (congrArg some hb27710) (ltn rfl)) rfl ?_
                refine VL.va (op_pick rfl rfl (ltn rfl)) rfl ?_
                refine VL.done ?_
                refine VN.then ?_
                by_cases c27711 : a2 ≥ (r18.length : Int)
                · rw [if_pos c27711] at h
                  obtain rfl : b27710 = true := hb27710.symm.trans (decide_eq_true c27711)
                  refine VC.cond_t rfl ?_
                  refine VC.region ?_
                  refine VL.va (op_assign rfl (ltn rfl)) rfl ?_
                  refine VL.done ?_
                  refine VN.meet1 8 [0, 1, 2, 3, 4, 5] [] h ⟨rfl, ⟨rfl, rfl, rfl, rfl, rfl, rfl, rfl, rfl, rfl, rfl, rfl, rfl, trivial⟩, ⟨⟨0, rfl⟩, ⟨1, rfl⟩, ⟨2, rfl⟩, ⟨3, rfl⟩, trivial⟩, rfl, by decide, rfl, by decide⟩
                · rw [if_neg c27711] at h
                  obtain rfl : b27710 = false := hb27710.symm.trans (decide_eq_false c27711)
                  refine VC.cond_f rfl ?_
                  refine VC.skip ?_
                  refine VN.meet1 0 [0, 1, 2, 3, 4, 5] [] h ⟨rfl, ⟨rfl, rfl, rfl, rfl, rfl, rfl, rfl, rfl, rfl, rfl, rfl, rfl, trivial⟩, ⟨⟨0, rfl⟩, ⟨1, rfl⟩, ⟨2, rfl⟩, ⟨3, rfl⟩, trivial⟩, rfl, by decide, rfl, by decide⟩
            · rw [if_neg c27704] at h
              obtain rfl := Bool.eq_false_iff.2 c27704
              refine VL.va (op_not rfl rfl (ltn rfl)) rfl ?_
              refine VL.done ?_
              refine VN.then ?_
              refine VC.cond_t rfl ?_
              refine VC.region ?_
              refine VL.va (op_assign rfl (ltn rfl)) rfl ?_
              refine VL.done ?_
              refine VN.meet1 1 [0, 1, 2, 3, 4, 5] [] h ⟨rfl, ⟨rfl, rfl, rfl, rfl, rfl, rfl, rfl, rfl, rfl, rfl, rfl, rfl, trivial⟩, ⟨⟨0, rfl⟩, ⟨1, rfl⟩, ⟨2, rfl⟩, ⟨3, rfl⟩, trivial⟩, rfl, by decide, rfl, by decide⟩
          intro i27712 h
          unfold tarrylaw15_NetGoes.j81 at h
          refine VC.seq ?_
          refine VC.seq ?_
          refine VC.region ?_
          refine VL.va (op_move rfl (ltn rfl)) rfl ?_
          refine VL.letter ((i27712 != 0)) fun b27753 hb27753 => ?_
          refine VL.va (op_cmp rfl rfl (congrArg some hb27753) (ltn rfl)) rfl ?_
          refine VL.done ?_
          refine VN.then ?_
          by_cases c27754 : i27712 = 0
          · rw [if_pos c27754] at h
            obtain rfl : b27753 = false := hb27753.symm.trans (bne_eq_false_iff_eq.2 c27754)
            refine VC.cond_f rfl ?_
            refine VC.skip ?_
            refine VN.then ?_
            refine VC.seq ?_
            refine VC.region ?_
            refine VL.va (op_fieldAddr FI24_0 rfl (add_at _ _ _) (ltn rfl)) rfl ?_
            refine VL.va (op_load 5 1 rfl rfl TI22 rfl (by decide) (ltn rfl)) rfl ?_
            refine VL.va (op_move rfl (ltn rfl)) rfl ?_
            by_cases c27755 : 0 ≤ a2
            · rw [if_pos c27755] at h
              replace h := Option.bind_eq_some_iff.1 h
              obtain ⟨x27756, hx27756, h⟩ := h
              refine VL.open (m := r18.length) 3 lenm rfl (pos_get hx27756) ?_
              rintro ad27757 n27758 rfl
              refine VL.va (op_indexAddr Try.underlying22 TI26 rfl rfl c27755 (lt_get c27755 hx27756) rfl (ltn rfl)) rfl ?_
              refine VL.va (op_load_row (o := 0) 3 a2.toNat 6 rfl rfl (get_map hx27756) TI26 rfl (fun h => absurd h (by decide)) (ltn rfl)) rfl ?_
              refine VL.sG (o_alloc (us := [.int .i64 0, .bool false, .int .i64 0, .int .i64 0, .int .i64 0, .bool false]) Z26 rfl (ltn rfl)) rfl ?_
              intro g27759
              refine VL.step1 (o_store 0 6 rfl rfl rfl TI26 (.agg (.c rfl (.c rfl (.c rfl (.c rfl (.c rfl (.c rfl .nil))))))) rfl (len rfl)) rfl ?_
              refine VL.done ?_
              refine VN.then ?_
              by_cases c27762 : a2 ≤ (r18.length : Int)
              · rw [if_pos c27762] at h
                by_cases c27765 : (([] : List S25).length + ((r18.take a2.toNat).drop 0).length) * 48 ≤ 140737488355328
                · rw [if_pos c27765] at h
                  by_cases c27768 : 0 ≤ wrap64 (a2 + 1)
                  · rw [if_pos c27768] at h
                    by_cases c27769 : (wrap64 (a2 + 1)) ≤ (r18.length : Int)
                    · rw [if_pos c27769] at h
                      by_cases c27772 : ((([] : List S25) ++ ((r18.take a2.toNat).drop 0)).length + ((r18.take r18.length).drop ((wrap64 (a2 + 1)).toNat)).length) * 48 ≤ 140737488355328
                      · rw [if_pos c27772] at h
                        refine VC.join2 (fun (g27775 : Nat) (v27773 : Value) => ⟨261, [(3, .pointer (some ⟨g2, 0, none⟩)), (6, .bool false), (10, .pointer (some ⟨g557, 0, none⟩)), (11, .pointer (some ⟨g558, 0, none⟩)), (12, .int .i64 t553), (13, .pointer (some ⟨g634, 0, none⟩)), (14, .int .i64 t630), (15, .pointer (some ⟨g696, 0, none⟩)), (16, .int .i64 t692), (17, .pointer (some ⟨g697, 0, none⟩)), (21, .pointer (some ⟨g27759, 0, none⟩)), (22, .pointer (some ⟨g27775, 0, none⟩))], [.row v695 6 (r690.map enc25), .row v633 6 (r628.map enc25), .row v556 6 (r545.map enc25), .row (.slice (some ad27757) r18.length n27758) 6 (r18.map enc25)], [(g27775, 24, [v27773, .int .i64 t19]), (g27759, 26, [.int .i64 x27756.f0, .bool x27756.f1, .int .i64 x27756.f2, .int .i64 x27756.f3, .int .i64 x27756.f4, .bool x27756.f5]), (g697, 24, [.slice none 0 0, .int .i64 0]), (g696, 24, [v695, .int .i64 t691]), (g634, 24, [v633, .int .i64 t629]), (g558, 26, [.int .i64 t547, .bool t548, .int .i64 t549, .int .i64 t550, .int .i64 t551, .bool t552]), (g557, 24, [v556, .int .i64 t546]), (g2, 24, [(.slice (some ad27757) r18.length n27758), .int .i64 t19])], [(v27773, 26, 6, ((([] : List S25) ++ ((r18.take a2.toNat).drop 0)) ++ ((r18.take r18.length).drop ((wrap64 (a2 + 1)).toNat))).map enc25)]⟩) (fun (g27775 : Nat) (v27773 : Value) => True) ?_ ?_
                        · refine VC.draw ⟨0, [], [.row (.slice (some ad27757) r18.length n27758) 6 (r18.map enc25)], [(g2, 24, [(.slice (some ad27757) r18.length n27758), .int .i64 t19])], []⟩ (by kernel_rfl) rfl (by kernel_rfl) (n := 17) (listed := LB 17 0) ?_
                          refine VA.va (i := 0) (listed' := LB 17 1) rfl (op_fieldAddr FI24_1 rfl (add_at _ _ _) (ltn rfl)) rfl (by kernel_rfl) (by kernel_rfl) (by kernel_rfl) (by kernel_rfl) ⟨⟨⟨3, rfl⟩, trivial⟩, ⟨⟨6, rfl⟩, trivial⟩, trivial⟩ (fun _ _ _ h => h) ?_
                          refine VA.va (i := 1) (listed' := LB 17 3) rfl (op_load 0 1 rfl rfl TI3 rfl (by decide) (ltn rfl)) rfl (by kernel_rfl) (by kernel_rfl) (by kernel_rfl) (by kernel_rfl) ⟨⟨⟨3, rfl⟩, trivial⟩, ⟨⟨6, rfl⟩, trivial⟩, trivial⟩ (fun _ _ _ h => h) ?_
                          refine VA.va (i := 3) (listed' := LB 17 11) rfl (op_fieldAddr FI24_0 rfl (add_at _ _ _) (ltn rfl)) rfl (by kernel_rfl) (by kernel_rfl) (by kernel_rfl) (by kernel_rfl) ⟨⟨⟨3, rfl⟩, trivial⟩, ⟨⟨6, rfl⟩, trivial⟩, trivial⟩ (fun _ _ _ h => h) ?_
                          refine VA.va (i := 4) (listed' := LB 17 27) rfl (op_load 0 1 rfl rfl TI22 rfl (by decide) (ltn rfl)) rfl (by kernel_rfl) (by kernel_rfl) (by kernel_rfl) (by kernel_rfl) ⟨⟨⟨3, rfl⟩, trivial⟩, ⟨⟨6, rfl⟩, trivial⟩, trivial⟩ (fun _ _ _ h => h) ?_
                          refine VA.va (i := 5) (listed' := LB 17 59) rfl (op_move rfl (ltn rfl)) rfl (by kernel_rfl) (by kernel_rfl) (by kernel_rfl) (by kernel_rfl) ⟨⟨⟨3, rfl⟩, trivial⟩, ⟨⟨6, rfl⟩, trivial⟩, trivial⟩ (fun _ _ _ h => h) ?_
                          refine VA.cut (i := 6) (listed' := LB 17 123) rfl (m := r18.length) 0 0 a2.toNat lenm cutm Try.underlying22 TI26 rfl rfl ⟨rfl, ⟨_, _, rfl, c27755, rfl⟩, by omega, by omega⟩ (ltn rfl) rfl (by kernel_rfl) (by kernel_rfl) (by kernel_rfl) (by kernel_rfl) ⟨⟨⟨3, rfl⟩, trivial⟩, ⟨⟨6, rfl⟩, trivial⟩, trivial⟩ (fun _ _ _ _ h => h) ?_
                          intro v27764
                          refine VA.va (i := 8) (listed' := LB 17 379) rfl (op_fieldAddr FI24_0 rfl (add_at _ _ _) (ltn rfl)) rfl (by kernel_rfl) (by kernel_rfl) (by kernel_rfl) (by kernel_rfl) ⟨⟨⟨4, rfl⟩, trivial⟩, ⟨⟨6, rfl⟩, trivial⟩, trivial⟩ (fun _ _ _ h => h) ?_
                          refine VA.va (i := 9) (listed' := LB 17 891) rfl (op_load 0 1 rfl rfl TI22 rfl (by decide) (ltn rfl)) rfl (by kernel_rfl) (by kernel_rfl) (by kernel_rfl) (by kernel_rfl) ⟨⟨⟨4, rfl⟩, trivial⟩, ⟨⟨6, rfl⟩, trivial⟩, trivial⟩ (fun _ _ _ h => h) ?_
                          refine VA.va (i := 10) (listed' := LB 17 1915) rfl (op_move rfl (ltn rfl)) rfl (by kernel_rfl) (by kernel_rfl) (by kernel_rfl) (by kernel_rfl) ⟨⟨⟨4, rfl⟩, trivial⟩, ⟨⟨6, rfl⟩, trivial⟩, trivial⟩ (fun _ _ _ h => h) ?_
                          refine VA.va (i := 11) (listed' := LB 17 3963) rfl (op_ari64 rfl rfl rfl (ltn rfl)) rfl (by kernel_rfl) (by kernel_rfl) (by kernel_rfl) (by kernel_rfl) ⟨⟨⟨4, rfl⟩, trivial⟩, ⟨⟨6, rfl⟩, trivial⟩, trivial⟩ (fun _ _ _ h => h) ?_
                          refine VA.cut (i := 12) (listed' := LB 17 8059) rfl (m := r18.length) 0 ((wrap64 (a2 + 1)).toNat) r18.length lenm cutm Try.underlying22 TI26 rfl rfl ⟨⟨_, _, rfl, c27768, rfl⟩, rfl, by omega, by omega⟩ (ltn rfl) rfl (by kernel_rfl) (by kernel_rfl) (by kernel_rfl) (by kernel_rfl) ⟨⟨⟨4, rfl⟩, trivial⟩, ⟨⟨6, rfl⟩, trivial⟩, trivial⟩ (fun _ _ _ _ h => h) ?_
                          intro v27771
                          refine VA.all [2, 15] (by kernel_rfl) (by simp) ?_
                          refine VAll.consG (listed' := LB 17 8063) rfl (o_buildSlice (vals := []) (cells := #[]) (es := List.map enc25 ([] : List S25)) Try.underlying22 TI26 Z26 rfl (by decide) (by decide) (by kernel_rfl) (by kernel_rfl) rfl (flat_map enc25_ok _) (ltn rfl)) rfl (by kernel_rfl) (fun _ => ⟨⟨⟨5, rfl⟩, trivial⟩, ⟨⟨6, rfl⟩, trivial⟩, trivial⟩) ?_ ?_
                          · intro v27761
                            refine VA.all [7, 15] (by kernel_rfl) (by simp) ?_
                            refine VAll.consG (listed' := LB 17 8191) rfl (o_append 0 appm Try.underlying22 EI26 rfl rfl rfl (.inl ⟨1, rfl⟩) (bndm c27765) (ltn rfl)) rfl (by kernel_rfl) (fun _ => ⟨⟨⟨5, rfl⟩, trivial⟩, ⟨⟨6, rfl⟩, trivial⟩, trivial⟩) ?_ ?_
                            · intro v27766
                              refine VA.all [13, 15] (by kernel_rfl) (by simp) ?_
                              refine VAll.consG (listed' := LB 17 16383) rfl (o_append 0 appm Try.underlying22 EI26 rfl rfl rfl (.inl ⟨0, rfl⟩) (bndm c27772) (ltn rfl)) rfl (by kernel_rfl) (fun _ => ⟨⟨⟨5, rfl⟩, trivial⟩, ⟨⟨6, rfl⟩, trivial⟩, trivial⟩) ?_ ?_
                              · intro v27773
                                refine VA.more ⟨0, [], [.row (.slice (some ad27757) r18.length n27758) 6 (r18.map enc25)], [(g2, 24, [(.slice (some ad27757) r18.length n27758), .int .i64 t19])], [(v27773, 26, 6, ((([] : List S25) ++ ((r18.take a2.toNat).drop 0)) ++ ((r18.take r18.length).drop ((wrap64 (a2 + 1)).toNat))).map enc25)]⟩ ⟨⟨⟨0, rfl⟩, trivial⟩, ⟨⟨0, rfl⟩, trivial⟩, trivial⟩ ?_
                                refine VA.va (i := 14) (listed' := LB 17 32767) rfl (op_build (vals := [(1, .int .i64 t19), (0, v27773)]) (vcs := [(1, [.int .i64 t19]), (0, [v27773])]) (cells := [v27773, .int .i64 t19]) SI24 rfl (.cons ⟨rfl, (.c rfl)⟩ (.cons ⟨rfl, (.r 0 rfl)⟩ .nil)) (by kernel_rfl) (ltn rfl)) rfl (by kernel_rfl) (by kernel_rfl) (by kernel_rfl) (by kernel_rfl) ⟨⟨⟨5, rfl⟩, trivial⟩, ⟨⟨6, rfl⟩, trivial⟩, ⟨⟨0, rfl⟩, trivial⟩⟩ (fun _ _ _ h => h) ?_
                                refine VA.oneG (i := 15) (listed' := LB 17 65535) (by kernel_rfl) rfl (o_alloc (us := [.slice none 0 0, .int .i64 0]) Z24 rfl (ltn rfl)) rfl (by kernel_rfl) (fun _ => ⟨⟨⟨5, rfl⟩, trivial⟩, ⟨⟨7, rfl⟩, trivial⟩, ⟨⟨0, rfl⟩, trivial⟩⟩) ?_
                                intro g27775
                                refine VA.one1 (i := 16) (listed' := LB 17 131071) (by kernel_rfl) rfl (o_store 0 2 rfl rfl rfl TI24 (.agg (.r 0 rfl (.c rfl .nil))) rfl (len rfl)) rfl (by kernel_rfl) ⟨⟨⟨5, rfl⟩, trivial⟩, ⟨⟨7, rfl⟩, trivial⟩, ⟨⟨0, rfl⟩, trivial⟩⟩ ?_
                                refine VA.done (by kernel_rfl) ?_
                                exact VN.meet2 g27775 v27773 [0, 1, 2, 3, 4, 5, 6, 7] [0] trivial ⟨rfl, ⟨rfl, rfl, rfl, rfl, rfl, rfl, rfl, rfl, rfl, rfl, rfl, rfl, trivial⟩, ⟨⟨2, rfl⟩, ⟨3, rfl⟩, ⟨4, rfl⟩, ⟨5, rfl⟩, trivial⟩, rfl, by decide, rfl, by decide⟩
                              refine VAll.consG (listed' := LB 17 40959) rfl (o_alloc (us := [.slice none 0 0, .int .i64 0]) Z24 rfl (ltn rfl)) rfl (by kernel_rfl) (fun _ => ⟨⟨⟨5, rfl⟩, trivial⟩, ⟨⟨7, rfl⟩, trivial⟩, trivial⟩) ?_ VAll.nil
                              intro g27775
                              refine VA.oneG (i := 13) (listed' := LB 17 49151) (by kernel_rfl) rfl (o_append 0 appm Try.underlying22 EI26 rfl rfl rfl (.inl ⟨0, rfl⟩) (bndm c27772) (ltn rfl)) rfl (by kernel_rfl) (fun _ => ⟨⟨⟨5, rfl⟩, trivial⟩, ⟨⟨7, rfl⟩, trivial⟩, trivial⟩) ?_
                              intro v27773
                              refine VA.more ⟨0, [], [.row (.slice (some ad27757) r18.length n27758) 6 (r18.map enc25)], [(g2, 24, [(.slice (some ad27757) r18.length n27758), .int .i64 t19])], [(v27773, 26, 6, ((([] : List S25) ++ ((r18.take a2.toNat).drop 0)) ++ ((r18.take r18.length).drop ((wrap64 (a2 + 1)).toNat))).map enc25)]⟩ ⟨⟨⟨0, rfl⟩, trivial⟩, ⟨⟨0, rfl⟩, trivial⟩, trivial⟩ ?_
                              refine VA.va (i := 14) (listed' := LB 17 65535) rfl (op_build (vals := [(1, .int .i64 t19), (0, v27773)]) (vcs := [(1, [.int .i64 t19]), (0, [v27773])]) (cells := [v27773, .int .i64 t19]) SI24 rfl (.cons ⟨rfl, (.c rfl)⟩ (.cons ⟨rfl, (.r 0 rfl)⟩ .nil)) (by kernel_rfl) (ltn rfl)) rfl (by kernel_rfl) (by kernel_rfl) (by kernel_rfl) (by kernel_rfl) ⟨⟨⟨5, rfl⟩, trivial⟩, ⟨⟨7, rfl⟩, trivial⟩, ⟨⟨0, rfl⟩, trivial⟩⟩ (fun _ _ _ h => h) ?_
                              refine VA.one1 (i := 16) (listed' := LB 17 131071) (by kernel_rfl) rfl (o_store 0 2 rfl rfl rfl TI24 (.agg (.r 0 rfl (.c rfl .nil))) rfl (len rfl)) rfl (by kernel_rfl) ⟨⟨⟨5, rfl⟩, trivial⟩, ⟨⟨7, rfl⟩, trivial⟩, ⟨⟨0, rfl⟩, trivial⟩⟩ ?_
                              refine VA.done (by kernel_rfl) ?_
                              exact VN.meet2 g27775 v27773 [0, 1, 2, 3, 4, 5, 6, 7] [0] trivial ⟨rfl, ⟨rfl, rfl, rfl, rfl, rfl, rfl, rfl, rfl, rfl, rfl, rfl, rfl, trivial⟩, ⟨⟨2, rfl⟩, ⟨3, rfl⟩, ⟨4, rfl⟩, ⟨5, rfl⟩, trivial⟩, rfl, by decide, rfl, by decide⟩
                            refine VAll.consG (listed' := LB 17 40831) rfl (o_alloc (us := [.slice none 0 0, .int .i64 0]) Z24 rfl (ltn rfl)) rfl (by kernel_rfl) (fun _ => ⟨⟨⟨5, rfl⟩, trivial⟩, ⟨⟨7, rfl⟩, trivial⟩, trivial⟩) ?_ VAll.nil
                            intro g27775
                            refine VA.oneG (i := 7) (listed' := LB 17 40959) (by kernel_rfl) rfl (o_append 0 appm Try.underlying22 EI26 rfl rfl rfl (.inl ⟨1, rfl⟩) (bndm c27765) (ltn rfl)) rfl (by kernel_rfl) (fun _ => ⟨⟨⟨5, rfl⟩, trivial⟩, ⟨⟨7, rfl⟩, trivial⟩, trivial⟩) ?_
                            intro v27766
                            refine VA.oneG (i := 13) (listed' := LB 17 49151) (by kernel_rfl) rfl (o_append 0 appm Try.underlying22 EI26 rfl rfl rfl (.inl ⟨0, rfl⟩) (bndm c27772) (ltn rfl)) rfl (by kernel_rfl) (fun _ => ⟨⟨⟨5, rfl⟩, trivial⟩, ⟨⟨7, rfl⟩, trivial⟩, trivial⟩) ?_
                            intro v27773
                            refine VA.more ⟨0, [], [.row (.slice (some ad27757) r18.length n27758) 6 (r18.map enc25)], [(g2, 24, [(.slice (some ad27757) r18.length n27758), .int .i64 t19])], [(v27773, 26, 6, ((([] : List S25) ++ ((r18.take a2.toNat).drop 0)) ++ ((r18.take r18.length).drop ((wrap64 (a2 + 1)).toNat))).map enc25)]⟩ ⟨⟨⟨0, rfl⟩, trivial⟩, ⟨⟨0, rfl⟩, trivial⟩, trivial⟩ ?_
                            refine VA.va (i := 14) (listed' := LB 17 65535) rfl (op_build (vals := [(1, .int .i64 t19), (0, v27773)]) (vcs := [(1, [.int .i64 t19]), (0, [v27773])]) (cells := [v27773, .int .i64 t19]) SI24 rfl (.cons ⟨rfl, (.c rfl)⟩ (.cons ⟨rfl, (.r 0 rfl)⟩ .nil)) (by kernel_rfl) (ltn rfl)) rfl (by kernel_rfl) (by kernel_rfl) (by kernel_rfl) (by kernel_rfl) ⟨⟨⟨5, rfl⟩, trivial⟩, ⟨⟨7, rfl⟩, trivial⟩, ⟨⟨0, rfl⟩, trivial⟩⟩ (fun _ _ _ h => h) ?_
                            refine VA.one1 (i := 16) (listed' := LB 17 131071) (by kernel_rfl) rfl (o_store 0 2 rfl rfl rfl TI24 (.agg (.r 0 rfl (.c rfl .nil))) rfl (len rfl)) rfl (by kernel_rfl) ⟨⟨⟨5, rfl⟩, trivial⟩, ⟨⟨7, rfl⟩, trivial⟩, ⟨⟨0, rfl⟩, trivial⟩⟩ ?_
                            refine VA.done (by kernel_rfl) ?_
                            exact VN.meet2 g27775 v27773 [0, 1, 2, 3, 4, 5, 6, 7] [0] trivial ⟨rfl, ⟨rfl, rfl, rfl, rfl, rfl, rfl, rfl, rfl, rfl, rfl, rfl, rfl, trivial⟩, ⟨⟨2, rfl⟩, ⟨3, rfl⟩, ⟨4, rfl⟩, ⟨5, rfl⟩, trivial⟩, rfl, by decide, rfl, by decide⟩
                          refine VAll.consG (listed' := LB 17 40827) rfl (o_alloc (us := [.slice none 0 0, .int .i64 0]) Z24 rfl (ltn rfl)) rfl (by kernel_rfl) (fun _ => ⟨⟨⟨5, rfl⟩, trivial⟩, ⟨⟨7, rfl⟩, trivial⟩, trivial⟩) ?_ VAll.nil
                          intro g27775
                          refine VA.oneG (i := 2) (listed' := LB 17 40831) (by kernel_rfl) rfl (o_buildSlice (vals := []) (cells := #[]) (es := List.map enc25 ([] : List S25)) Try.underlying22 TI26 Z26 rfl (by decide) (by decide) (by kernel_rfl) (by kernel_rfl) rfl (flat_map enc25_ok _) (ltn rfl)) rfl (by kernel_rfl) (fun _ => ⟨⟨⟨5, rfl⟩, trivial⟩, ⟨⟨7, rfl⟩, trivial⟩, trivial⟩) ?_
                          intro v27761
                          refine VA.oneG (i := 7) (listed' := LB 17 40959) (by kernel_rfl) rfl (o_append 0 appm Try.underlying22 EI26 rfl rfl rfl (.inl ⟨1, rfl⟩) (bndm c27765) (ltn rfl)) rfl (by kernel_rfl) (fun _ => ⟨⟨⟨5, rfl⟩, trivial⟩, ⟨⟨7, rfl⟩, trivial⟩, trivial⟩) ?_
                          intro v27766
                          refine VA.oneG (i := 13) (listed' := LB 17 49151) (by kernel_rfl) rfl (o_append 0 appm Try.underlying22 EI26 rfl rfl rfl (.inl ⟨0, rfl⟩) (bndm c27772) (ltn rfl)) rfl (by kernel_rfl) (fun _ => ⟨⟨⟨5, rfl⟩, trivial⟩, ⟨⟨7, rfl⟩, trivial⟩, trivial⟩) ?_
                          intro v27773
                          refine VA.more ⟨0, [], [.row (.slice (some ad27757) r18.length n27758) 6 (r18.map enc25)], [(g2, 24, [(.slice (some ad27757) r18.length n27758), .int .i64 t19])], [(v27773, 26, 6, ((([] : List S25) ++ ((r18.take a2.toNat).drop 0)) ++ ((r18.take r18.length).drop ((wrap64 (a2 + 1)).toNat))).map enc25)]⟩ ⟨⟨⟨0, rfl⟩, trivial⟩, ⟨⟨0, rfl⟩, trivial⟩, trivial⟩ ?_
                          refine VA.va (i := 14) (listed' := LB 17 65535) rfl (op_build (vals := [(1, .int .i64 t19), (0, v27773)]) (vcs := [(1, [.int .i64 t19]), (0, [v27773])]) (cells := [v27773, .int .i64 t19]) SI24 rfl (.cons ⟨rfl, (.c rfl)⟩ (.cons ⟨rfl, (.r 0 rfl)⟩ .nil)) (by kernel_rfl) (ltn rfl)) rfl (by kernel_rfl) (by kernel_rfl) (by kernel_rfl) (by kernel_rfl) ⟨⟨⟨5, rfl⟩, trivial⟩, ⟨⟨7, rfl⟩, trivial⟩, ⟨⟨0, rfl⟩, trivial⟩⟩ (fun _ _ _ h => h) ?_
                          refine VA.one1 (i := 16) (listed' := LB 17 131071) (by kernel_rfl) rfl (o_store 0 2 rfl rfl rfl TI24 (.agg (.r 0 rfl (.c rfl .nil))) rfl (len rfl)) rfl (by kernel_rfl) ⟨⟨⟨5, rfl⟩, trivial⟩, ⟨⟨7, rfl⟩, trivial⟩, ⟨⟨0, rfl⟩, trivial⟩⟩ ?_
                          refine VA.done (by kernel_rfl) ?_
                          exact VN.meet2 g27775 v27773 [0, 1, 2, 3, 4, 5, 6, 7] [0] trivial ⟨rfl, ⟨rfl, rfl, rfl, rfl, rfl, rfl, rfl, rfl, rfl, rfl, rfl, rfl, trivial⟩, ⟨⟨2, rfl⟩, ⟨3, rfl⟩, ⟨4, rfl⟩, ⟨5, rfl⟩, trivial⟩, rfl, by decide, rfl, by decide⟩
                        intro g27775 v27773 _
                        by_cases c27782 : ((([] : List S25) ++ r18).length + ([x27756] : List S25).length) * 48 ≤ 140737488355328
                        · rw [if_pos c27782] at h
                          refine VC.join2 (fun (g27785 : Nat) (v27783 : Value) => ⟨261, [(3, .pointer (some ⟨g2, 0, none⟩)), (6, .bool false), (10, .pointer (some ⟨g557, 0, none⟩)), (11, .pointer (some ⟨g558, 0, none⟩)), (12, .int .i64 t553), (13, .pointer (some ⟨g634, 0, none⟩)), (14, .int .i64 t630), (15, .pointer (some ⟨g696, 0, none⟩)), (16, .int .i64 t692), (17, .pointer (some ⟨g697, 0, none⟩)), (21, .pointer (some ⟨g27759, 0, none⟩)), (22, .pointer (some ⟨g27775, 0, none⟩)), (23, .pointer (some ⟨g27785, 0, none⟩))], [.row v695 6 (r690.map enc25), .row v633 6 (r628.map enc25), .row v556 6 (r545.map enc25), .row (.slice (some ad27757) r18.length n27758) 6 (r18.map enc25)], [(g27785, 24, [v27783, .int .i64 t19]), (g27775, 24, [v27773, .int .i64 t19]), (g27759, 26, [.int .i64 x27756.f0, .bool x27756.f1, .int .i64 x27756.f2, .int .i64 x27756.f3, .int .i64 x27756.f4, .bool x27756.f5]), (g697, 24, [.slice none 0 0, .int .i64 0]), (g696, 24, [v695, .int .i64 t691]), (g634, 24, [v633, .int .i64 t629]), (g558, 26, [.int .i64 t547, .bool t548, .int .i64 t549, .int .i64 t550, .int .i64 t551, .bool t552]), (g557, 24, [v556, .int .i64 t546]), (g2, 24, [(.slice (some ad27757) r18.length n27758), .int .i64 t19])], [(v27783, 26, 6, ((([] : List S25) ++ r18) ++ ([x27756] : List S25)).map enc25), (v27773, 26, 6, ((([] : List S25) ++ ((r18.take a2.toNat).drop 0)) ++ ((r18.take r18.length).drop ((wrap64 (a2 + 1)).toNat))).map enc25)]⟩) (fun (g27785 : Nat) (v27783 : Value) => True) ?_ ?_
                          · refine VC.draw ⟨0, [], [], [(g27759, 26, [.int .i64 x27756.f0, .bool x27756.f1, .int .i64 x27756.f2, .int .i64 x27756.f3, .int .i64 x27756.f4, .bool x27756.f5]), (g2, 24, [(.slice (some ad27757) r18.length n27758), .int .i64 t19])], []⟩ (by kernel_rfl) rfl (by kernel_rfl) (n := 12) (listed := LB 12 0) ?_
                            refine VA.va (i := 0) (listed' := LB 12 1) rfl (op_fieldAddr FI24_1 rfl (add_at _ _ _) (ltn rfl)) rfl (by kernel_rfl) (by kernel_rfl) (by kernel_rfl) (by kernel_rfl) ⟨trivial, ⟨⟨1, rfl⟩, ⟨7, rfl⟩, trivial⟩, trivial⟩ (fun _ _ _ h => h) ?_
                            refine VA.va (i := 1) (listed' := LB 12 3) rfl (op_load 1 1 rfl rfl TI3 rfl (by decide) (ltn rfl)) rfl (by kernel_rfl) (by kernel_rfl) (by kernel_rfl) (by kernel_rfl) ⟨trivial, ⟨⟨1, rfl⟩, ⟨7, rfl⟩, trivial⟩, trivial⟩ (fun _ _ _ h => h) ?_
                            refine VA.va (i := 3) (listed' := LB 12 11) rfl (op_fieldAddr FI24_0 rfl (add_at _ _ _) (ltn rfl)) rfl (by kernel_rfl) (by kernel_rfl) (by kernel_rfl) (by kernel_rfl) ⟨trivial, ⟨⟨1, rfl⟩, ⟨7, rfl⟩, trivial⟩, trivial⟩ (fun _ _ _ h => h) ?_
                            refine VA.va (i := 4) (listed' := LB 12 27) rfl (op_load 1 1 rfl rfl TI22 rfl (by decide) (ltn rfl)) rfl (by kernel_rfl) (by kernel_rfl) (by kernel_rfl) (by kernel_rfl) ⟨trivial, ⟨⟨1, rfl⟩, ⟨7, rfl⟩, trivial⟩, trivial⟩ (fun _ _ _ h => h) ?_
                            refine VA.va (i := 6) (listed' := LB 12 91) rfl (op_load 0 6 rfl rfl TI26 rfl (fun h => absurd h (by decide)) (ltn rfl)) rfl (by kernel_rfl) (by kernel_rfl) (by kernel_rfl) (by kernel_rfl) ⟨trivial, ⟨⟨1, rfl⟩, ⟨7, rfl⟩, trivial⟩, trivial⟩ (fun _ _ _ h => h) ?_
                            refine VA.all [2, 7, 10] (by kernel_rfl) (by simp) ?_
                            refine VAll.consG (listed' := LB 12 95) rfl (o_buildSlice (vals := []) (cells := #[]) (es := List.map enc25 ([] : List S25)) Try.underlying22 TI26 Z26 rfl (by decide) (by decide) (by kernel_rfl) (by kernel_rfl) rfl (flat_map enc25_ok _) (ltn rfl)) rfl (by kernel_rfl) (fun _ => ⟨trivial, ⟨⟨1, rfl⟩, ⟨7, rfl⟩, trivial⟩, trivial⟩) ?_ ?_
                            · intro v27777
                              refine VA.all [5, 7, 10] (by kernel_rfl) (by simp) ?_
                              refine VAll.consG (listed' := LB 12 127) rfl (o_append 0 appm Try.underlying22 EI26 rfl rfl rfl (.inl ⟨3, rfl⟩) (bndm c19543) (ltn rfl)) rfl (by kernel_rfl) (fun _ => ⟨trivial, ⟨⟨1, rfl⟩, ⟨7, rfl⟩, trivial⟩, trivial⟩) ?_ ?_
                              · intro v27778
                                refine VA.all [7, 10] (by kernel_rfl) (by simp) ?_
                                refine VAll.consG (listed' := LB 12 255) rfl (o_buildSlice (vals := [(0, .agg #[.int .i64 x27756.f0, .bool x27756.f1, .int .i64 x27756.f2, .int .i64 x27756.f3, .int .i64 x27756.f4, .bool x27756.f5])]) (cells := #[.int .i64 x27756.f0, .bool x27756.f1, .int .i64 x27756.f2, .int .i64 x27756.f3, .int .i64 x27756.f4, .bool x27756.f5]) (es := List.map enc25 ([x27756] : List S25)) Try.underlying22 TI26 Z26 rfl (by decide) (by decide) (by kernel_rfl) (by kernel_rfl) rfl (flat_map enc25_ok _) (ltn rfl)) rfl (by kernel_rfl) (fun _ => ⟨trivial, ⟨⟨1, rfl⟩, ⟨7, rfl⟩, trivial⟩, trivial⟩) ?_ ?_
                                · intro v27781
                                  refine VA.all [8, 10] (by kernel_rfl) (by simp) ?_
                                  refine VAll.consG (listed' := LB 12 511) rfl (o_append 1 appm Try.underlying22 EI26 rfl rfl rfl (.inr ⟨0, _, rfl⟩) (bndm c27782) (ltn rfl)) rfl (by kernel_rfl) (fun _ => ⟨trivial, ⟨⟨1, rfl⟩, ⟨7, rfl⟩, trivial⟩, trivial⟩) ?_ ?_
                                  · intro v27783
                                    refine VA.more ⟨0, [], [], [(g27759, 26, [.int .i64 x27756.f0, .bool x27756.f1, .int .i64 x27756.f2, .int .i64 x27756.f3, .int .i64 x27756.f4, .bool x27756.f5]), (g2, 24, [(.slice (some ad27757) r18.length n27758), .int .i64 t19])], [(v27783, 26, 6, ((([] : List S25) ++ r18) ++ ([x27756] : List S25)).map enc25)]⟩ ⟨trivial, ⟨⟨0, rfl⟩, ⟨1, rfl⟩, trivial⟩, trivial⟩ ?_
                                    refine VA.va (i := 9) (listed' := LB 12 1023) rfl (op_build (vals := [(1, .int .i64 t19), (0, v27783)]) (vcs := [(1, [.int .i64 t19]), (0, [v27783])]) (cells := [v27783, .int .i64 t19]) SI24 rfl (.cons ⟨rfl, (.c rfl)⟩ (.cons ⟨rfl, (.r 0 rfl)⟩ .nil)) (by kernel_rfl) (ltn rfl)) rfl (by kernel_rfl) (by kernel_rfl) (by kernel_rfl) (by kernel_rfl) ⟨trivial, ⟨⟨1, rfl⟩, ⟨7, rfl⟩, trivial⟩, ⟨⟨1, rfl⟩, trivial⟩⟩ (fun _ _ _ h => h) ?_
                                    refine VA.oneG (i := 10) (listed' := LB 12 2047) (by kernel_rfl) rfl (o_alloc (us := [.slice none 0 0, .int .i64 0]) Z24 rfl (ltn rfl)) rfl (by kernel_rfl) (fun _ => ⟨trivial, ⟨⟨2, rfl⟩, ⟨8, rfl⟩, trivial⟩, ⟨⟨1, rfl⟩, trivial⟩⟩) ?_
                                    intro g27785
                                    refine VA.one1 (i := 11) (listed' := LB 12 4095) (by kernel_rfl) rfl (o_store 0 2 rfl rfl rfl TI24 (.agg (.r 1 rfl (.c rfl .nil))) rfl (len rfl)) rfl (by kernel_rfl) ⟨trivial, ⟨⟨2, rfl⟩, ⟨8, rfl⟩, trivial⟩, ⟨⟨1, rfl⟩, trivial⟩⟩ ?_
                                    refine VA.done (by kernel_rfl) ?_
                                    exact VN.meet2 g27785 v27783 [0, 1, 2, 3, 4, 5, 6, 7, 8] [1, 2] trivial ⟨rfl, ⟨rfl, rfl, rfl, rfl, rfl, rfl, rfl, rfl, rfl, rfl, rfl, rfl, rfl, trivial⟩, ⟨⟨0, rfl⟩, ⟨1, rfl⟩, ⟨2, rfl⟩, ⟨3, rfl⟩, trivial⟩, rfl, by decide, rfl, by decide⟩
                                  refine VAll.consG (listed' := LB 12 1279) rfl (o_alloc (us := [.slice none 0 0, .int .i64 0]) Z24 rfl (ltn rfl)) rfl (by kernel_rfl) (fun _ => ⟨trivial, ⟨⟨2, rfl⟩, ⟨8, rfl⟩, trivial⟩, trivial⟩) ?_ VAll.nil
                                  intro g27785
                                  refine VA.oneG (i := 8) (listed' := LB 12 1535) (by kernel_rfl) rfl (o_append 1 appm Try.underlying22 EI26 rfl rfl rfl (.inr ⟨0, _, rfl⟩) (bndm c27782) (ltn rfl)) rfl (by kernel_rfl) (fun _ => ⟨trivial, ⟨⟨2, rfl⟩, ⟨8, rfl⟩, trivial⟩, trivial⟩) ?_
                                  intro v27783
                                  refine VA.more ⟨0, [], [], [(g27759, 26, [.int .i64 x27756.f0, .bool x27756.f1, .int .i64 x27756.f2, .int .i64 x27756.f3, .int .i64 x27756.f4, .bool x27756.f5]), (g2, 24, [(.slice (some ad27757) r18.length n27758), .int .i64 t19])], [(v27783, 26, 6, ((([] : List S25) ++ r18) ++ ([x27756] : List S25)).map enc25)]⟩ ⟨trivial, ⟨⟨0, rfl⟩, ⟨1, rfl⟩, trivial⟩, trivial⟩ ?_
                                  refine VA.va (i := 9) (listed' := LB 12 2047) rfl (op_build (vals := [(1, .int .i64 t19), (0, v27783)]) (vcs := [(1, [.int .i64 t19]), (0, [v27783])]) (cells := [v27783, .int .i64 t19]) SI24 rfl (.cons ⟨rfl, (.c rfl)⟩ (.cons ⟨rfl, (.r 0 rfl)⟩ .nil)) (by kernel_rfl) (ltn rfl)) rfl (by kernel_rfl) (by kernel_rfl) (by kernel_rfl) (by kernel_rfl) ⟨trivial, ⟨⟨2, rfl⟩, ⟨8, rfl⟩, trivial⟩, ⟨⟨1, rfl⟩, trivial⟩⟩ (fun _ _ _ h => h) ?_
                                  refine VA.one1 (i := 11) (listed' := LB 12 4095) (by kernel_rfl) rfl (o_store 0 2 rfl rfl rfl TI24 (.agg (.r 1 rfl (.c rfl .nil))) rfl (len rfl)) rfl (by kernel_rfl) ⟨trivial, ⟨⟨2, rfl⟩, ⟨8, rfl⟩, trivial⟩, ⟨⟨1, rfl⟩, trivial⟩⟩ ?_
                                  refine VA.done (by kernel_rfl) ?_
                                  exact VN.meet2 g27785 v27783 [0, 1, 2, 3, 4, 5, 6, 7, 8] [1, 2] trivial ⟨rfl, ⟨rfl, rfl, rfl, rfl, rfl, rfl, rfl, rfl, rfl, rfl, rfl, rfl, rfl, trivial⟩, ⟨⟨0, rfl⟩, ⟨1, rfl⟩, ⟨2, rfl⟩, ⟨3, rfl⟩, trivial⟩, rfl, by decide, rfl, by decide⟩
                                refine VAll.consG (listed' := LB 12 1151) rfl (o_alloc (us := [.slice none 0 0, .int .i64 0]) Z24 rfl (ltn rfl)) rfl (by kernel_rfl) (fun _ => ⟨trivial, ⟨⟨2, rfl⟩, ⟨8, rfl⟩, trivial⟩, trivial⟩) ?_ VAll.nil
                                intro g27785
                                refine VA.oneG (i := 7) (listed' := LB 12 1279) (by kernel_rfl) rfl (o_buildSlice (vals := [(0, .agg #[.int .i64 x27756.f0, .bool x27756.f1, .int .i64 x27756.f2, .int .i64 x27756.f3, .int .i64 x27756.f4, .bool x27756.f5])]) (cells := #[.int .i64 x27756.f0, .bool x27756.f1, .int .i64 x27756.f2, .int .i64 x27756.f3, .int .i64 x27756.f4, .bool x27756.f5]) (es := List.map enc25 ([x27756] : List S25)) Try.underlying22 TI26 Z26 rfl (by decide) (by decide) (by kernel_rfl) (by kernel_rfl) rfl (flat_map enc25_ok _) (ltn rfl)) rfl (by kernel_rfl) (fun _ => ⟨trivial, ⟨⟨2, rfl⟩, ⟨8, rfl⟩, trivial⟩, trivial⟩) ?_
                                intro v27781
                                refine VA.oneG (i := 8) (listed' := LB 12 1535) (by kernel_rfl) rfl (o_append 1 appm Try.underlying22 EI26 rfl rfl rfl (.inr ⟨0, _, rfl⟩) (bndm c27782) (ltn rfl)) rfl (by kernel_rfl) (fun _ => ⟨trivial, ⟨⟨2, rfl⟩, ⟨8, rfl⟩, trivial⟩, trivial⟩) ?_
                                intro v27783
                                refine VA.more ⟨0, [], [], [(g27759, 26, [.int .i64 x27756.f0, .bool x27756.f1, .int .i64 x27756.f2, .int .i64 x27756.f3, .int .i64 x27756.f4, .bool x27756.f5]), (g2, 24, [(.slice (some ad27757) r18.length n27758), .int .i64 t19])], [(v27783, 26, 6, ((([] : List S25) ++ r18) ++ ([x27756] : List S25)).map enc25)]⟩ ⟨trivial, ⟨⟨0, rfl⟩, ⟨1, rfl⟩, trivial⟩, trivial⟩ ?_
                                refine VA.va (i := 9) (listed' := LB 12 2047) rfl (op_build (vals := [(1, .int .i64 t19), (0, v27783)]) (vcs := [(1, [.int .i64 t19]), (0, [v27783])]) (cells := [v27783, .int .i64 t19]) SI24 rfl (.cons ⟨rfl, (.c rfl)⟩ (.cons ⟨rfl, (.r 0 rfl)⟩ .nil)) (by kernel_rfl) (ltn rfl)) rfl (by kernel_rfl) (by kernel_rfl) (by kernel_rfl) (by kernel_rfl) ⟨trivial, ⟨⟨2, rfl⟩, ⟨8, rfl⟩, trivial⟩, ⟨⟨1, rfl⟩, trivial⟩⟩ (fun _ _ _ h => h) ?_
                                refine VA.one1 (i := 11) (listed' := LB 12 4095) (by kernel_rfl) rfl (o_store 0 2 rfl rfl rfl TI24 (.agg (.r 1 rfl (.c rfl .nil))) rfl (len rfl)) rfl (by kernel_rfl) ⟨trivial, ⟨⟨2, rfl⟩, ⟨8, rfl⟩, trivial⟩, ⟨⟨1, rfl⟩, trivial⟩⟩ ?_
                                refine VA.done (by kernel_rfl) ?_
                                exact VN.meet2 g27785 v27783 [0, 1, 2, 3, 4, 5, 6, 7, 8] [1, 2] trivial ⟨rfl, ⟨rfl, rfl, rfl, rfl, rfl, rfl, rfl, rfl, rfl, rfl, rfl, rfl, rfl, trivial⟩, ⟨⟨0, rfl⟩, ⟨1, rfl⟩, ⟨2, rfl⟩, ⟨3, rfl⟩, trivial⟩, rfl, by decide, rfl, by decide⟩
                              refine VAll.consG (listed' := LB 12 223) rfl (o_buildSlice (vals := [(0, .agg #[.int .i64 x27756.f0, .bool x27756.f1, .int .i64 x27756.f2, .int .i64 x27756.f3, .int .i64 x27756.f4, .bool x27756.f5])]) (cells := #[.int .i64 x27756.f0, .bool x27756.f1, .int .i64 x27756.f2, .int .i64 x27756.f3, .int .i64 x27756.f4, .bool x27756.f5]) (es := List.map enc25 ([x27756] : List S25)) Try.underlying22 TI26 Z26 rfl (by decide) (by decide) (by kernel_rfl) (by kernel_rfl) rfl (flat_map enc25_ok _) (ltn rfl)) rfl (by kernel_rfl) (fun _ => ⟨trivial, ⟨⟨1, rfl⟩, ⟨7, rfl⟩, trivial⟩, trivial⟩) ?_ ?_
                              · intro v27781
                                refine VA.all [5, 10] (by kernel_rfl) (by simp) ?_
                                refine VAll.consG (listed' := LB 12 255) rfl (o_append 1 appm Try.underlying22 EI26 rfl rfl rfl (.inl ⟨3, rfl⟩) (bndm c19543) (ltn rfl)) rfl (by kernel_rfl) (fun _ => ⟨trivial, ⟨⟨1, rfl⟩, ⟨7, rfl⟩, trivial⟩, trivial⟩) ?_ ?_
                                · intro v27778
                                  refine VA.all [8, 10] (by kernel_rfl) (by simp) ?_
                                  refine VAll.consG (listed' := LB 12 511) rfl (o_append 1 appm Try.underlying22 EI26 rfl rfl rfl (.inr ⟨0, _, rfl⟩) (bndm c27782) (ltn rfl)) rfl (by kernel_rfl) (fun _ => ⟨trivial, ⟨⟨1, rfl⟩, ⟨7, rfl⟩, trivial⟩, trivial⟩) ?_ ?_
                                  · intro v27783
                                    refine VA.more ⟨0, [], [], [(g27759, 26, [.int .i64 x27756.f0, .bool x27756.f1, .int .i64 x27756.f2, .int .i64 x27756.f3, .int .i64 x27756.f4, .bool x27756.f5]), (g2, 24, [(.slice (some ad27757) r18.length n27758), .int .i64 t19])], [(v27783, 26, 6, ((([] : List S25) ++ r18) ++ ([x27756] : List S25)).map enc25)]⟩ ⟨trivial, ⟨⟨0, rfl⟩, ⟨1, rfl⟩, trivial⟩, trivial⟩ ?_
                                    refine VA.va (i := 9) (listed' := LB 12 1023) rfl (op_build (vals := [(1, .int .i64 t19), (0, v27783)]) (vcs := [(1, [.int .i64 t19]), (0, [v27783])]) (cells := [v27783, .int .i64 t19]) SI24 rfl (.cons ⟨rfl, (.c rfl)⟩ (.cons ⟨rfl, (.r 0 rfl)⟩ .nil)) (by kernel_rfl) (ltn rfl)) rfl (by kernel_rfl) (by kernel_rfl) (by kernel_rfl) (by kernel_rfl) ⟨trivial, ⟨⟨1, rfl⟩, ⟨7, rfl⟩, trivial⟩, ⟨⟨1, rfl⟩, trivial⟩⟩ (fun _ _ _ h => h) ?_
                                    refine VA.oneG (i := 10) (listed' := LB 12 2047) (by kernel_rfl) rfl (o_alloc (us := [.slice none 0 0, .int .i64 0]) Z24 rfl (ltn rfl)) rfl (by kernel_rfl) (fun _ => ⟨trivial, ⟨⟨2, rfl⟩, ⟨8, rfl⟩, trivial⟩, ⟨⟨1, rfl⟩, trivial⟩⟩) ?_
                                    intro g27785
                                    refine VA.one1 (i := 11) (listed' := LB 12 4095) (by kernel_rfl) rfl (o_store 0 2 rfl rfl rfl TI24 (.agg (.r 1 rfl (.c rfl .nil))) rfl (len rfl)) rfl (by kernel_rfl) ⟨trivial, ⟨⟨2, rfl⟩, ⟨8, rfl⟩, trivial⟩, ⟨⟨1, rfl⟩, trivial⟩⟩ ?_
                                    refine VA.done (by kernel_rfl) ?_
                                    exact VN.meet2 g27785 v27783 [0, 1, 2, 3, 4, 5, 6, 7, 8] [1, 2] trivial ⟨rfl, ⟨rfl, rfl, rfl, rfl, rfl, rfl, rfl, rfl, rfl, rfl, rfl, rfl, rfl, trivial⟩, ⟨⟨0, rfl⟩, ⟨1, rfl⟩, ⟨2, rfl⟩, ⟨3, rfl⟩, trivial⟩, rfl, by decide, rfl, by decide⟩
                                  refine VAll.consG (listed' := LB 12 1279) rfl (o_alloc (us := [.slice none 0 0, .int .i64 0]) Z24 rfl (ltn rfl)) rfl (by kernel_rfl) (fun _ => ⟨trivial, ⟨⟨2, rfl⟩, ⟨8, rfl⟩, trivial⟩, trivial⟩) ?_ VAll.nil
                                  intro g27785
                                  refine VA.oneG (i := 8) (listed' := LB 12 1535) (by kernel_rfl) rfl (o_append 1 appm Try.underlying22 EI26 rfl rfl rfl (.inr ⟨0, _, rfl⟩) (bndm c27782) (ltn rfl)) rfl (by kernel_rfl) (fun _ => ⟨trivial, ⟨⟨2, rfl⟩, ⟨8, rfl⟩, trivial⟩, trivial⟩) ?_
                                  intro v27783
                                  refine VA.more ⟨0, [], [], [(g27759, 26, [.int .i64 x27756.f0, .bool x27756.f1, .int .i64 x27756.f2, .int .i64 x27756.f3, .int .i64 x27756.f4, .bool x27756.f5]), (g2, 24, [(.slice (some ad27757) r18.length n27758), .int .i64 t19])], [(v27783, 26, 6, ((([] : List S25) ++ r18) ++ ([x27756] : List S25)).map enc25)]⟩ ⟨trivial, ⟨⟨0, rfl⟩, ⟨1, rfl⟩, trivial⟩, trivial⟩ ?_
                                  refine VA.va (i := 9) (listed' := LB 12 2047) rfl (op_build (vals := [(1, .int .i64 t19), (0, v27783)]) (vcs := [(1, [.int .i64 t19]), (0, [v27783])]) (cells := [v27783, .int .i64 t19]) SI24 rfl (.cons ⟨rfl, (.c rfl)⟩ (.cons ⟨rfl, (.r 0 rfl)⟩ .nil)) (by kernel_rfl) (ltn rfl)) rfl (by kernel_rfl) (by kernel_rfl) (by kernel_rfl) (by kernel_rfl) ⟨trivial, ⟨⟨2, rfl⟩, ⟨8, rfl⟩, trivial⟩, ⟨⟨1, rfl⟩, trivial⟩⟩ (fun _ _ _ h => h) ?_
                                  refine VA.one1 (i := 11) (listed' := LB 12 4095) (by kernel_rfl) rfl (o_store 0 2 rfl rfl rfl TI24 (.agg (.r 1 rfl (.c rfl .nil))) rfl (len rfl)) rfl (by kernel_rfl) ⟨trivial, ⟨⟨2, rfl⟩, ⟨8, rfl⟩, trivial⟩, ⟨⟨1, rfl⟩, trivial⟩⟩ ?_
                                  refine VA.done (by kernel_rfl) ?_
                                  exact VN.meet2 g27785 v27783 [0, 1, 2, 3, 4, 5, 6, 7, 8] [1, 2] trivial ⟨rfl, ⟨rfl, rfl, rfl, rfl, rfl, rfl, rfl, rfl, rfl, rfl, rfl, rfl, rfl, trivial⟩, ⟨⟨0, rfl⟩, ⟨1, rfl⟩, ⟨2, rfl⟩, ⟨3, rfl⟩, trivial⟩, rfl, by decide, rfl, by decide⟩
                                refine VAll.consG (listed' := LB 12 1247) rfl (o_alloc (us := [.slice none 0 0, .int .i64 0]) Z24 rfl (ltn rfl)) rfl (by kernel_rfl) (fun _ => ⟨trivial, ⟨⟨2, rfl⟩, ⟨8, rfl⟩, trivial⟩, trivial⟩) ?_ VAll.nil
                                intro g27785
                                refine VA.oneG (i := 5) (listed' := LB 12 1279) (by kernel_rfl) rfl (o_append 1 appm Try.underlying22 EI26 rfl rfl rfl (.inl ⟨3, rfl⟩) (bndm c19543) (ltn rfl)) rfl (by kernel_rfl) (fun _ => ⟨trivial, ⟨⟨2, rfl⟩, ⟨8, rfl⟩, trivial⟩, trivial⟩) ?_
                                intro v27778
                                refine VA.oneG (i := 8) (listed' := LB 12 1535) (by kernel_rfl) rfl (o_append 1 appm Try.underlying22 EI26 rfl rfl rfl (.inr ⟨0, _, rfl⟩) (bndm c27782) (ltn rfl)) rfl (by kernel_rfl) (fun _ => ⟨trivial, ⟨⟨2, rfl⟩, ⟨8, rfl⟩, trivial⟩, trivial⟩) ?_
                                intro v27783
                                refine VA.more ⟨0, [], [], [(g27759, 26, [.int .i64 x27756.f0, .bool x27756.f1, .int .i64 x27756.f2, .int .i64 x27756.f3, .int .i64 x27756.f4, .bool x27756.f5]), (g2, 24, [(.slice (some ad27757) r18.length n27758), .int .i64 t19])], [(v27783, 26, 6, ((([] : List S25) ++ r18) ++ ([x27756] : List S25)).map enc25)]⟩ ⟨trivial, ⟨⟨0, rfl⟩, ⟨1, rfl⟩, trivial⟩, trivial⟩ ?_
                                refine VA.va (i := 9) (listed' := LB 12 2047) rfl (op_build (vals := [(1, .int .i64 t19), (0, v27783)]) (vcs := [(1, [.int .i64 t19]), (0, [v27783])]) (cells := [v27783, .int .i64 t19]) SI24 rfl (.cons ⟨rfl, (.c rfl)⟩ (.cons ⟨rfl, (.r 0 rfl)⟩ .nil)) (by kernel_rfl) (ltn rfl)) rfl (by kernel_rfl) (by kernel_rfl) (by kernel_rfl) (by kernel_rfl) ⟨trivial, ⟨⟨2, rfl⟩, ⟨8, rfl⟩, trivial⟩, ⟨⟨1, rfl⟩, trivial⟩⟩ (fun _ _ _ h => h) ?_
                                refine VA.one1 (i := 11) (listed' := LB 12 4095) (by kernel_rfl) rfl (o_store 0 2 rfl rfl rfl TI24 (.agg (.r 1 rfl (.c rfl .nil))) rfl (len rfl)) rfl (by kernel_rfl) ⟨trivial, ⟨⟨2, rfl⟩, ⟨8, rfl⟩, trivial⟩, ⟨⟨1, rfl⟩, trivial⟩⟩ ?_
                                refine VA.done (by kernel_rfl) ?_
                                exact VN.meet2 g27785 v27783 [0, 1, 2, 3, 4, 5, 6, 7, 8] [1, 2] trivial ⟨rfl, ⟨rfl, rfl, rfl, rfl, rfl, rfl, rfl, rfl, rfl, rfl, rfl, rfl, rfl, trivial⟩, ⟨⟨0, rfl⟩, ⟨1, rfl⟩, ⟨2, rfl⟩, ⟨3, rfl⟩, trivial⟩, rfl, by decide, rfl, by decide⟩
                              refine VAll.consG (listed' := LB 12 1119) rfl (o_alloc (us := [.slice none 0 0, .int .i64 0]) Z24 rfl (ltn rfl)) rfl (by kernel_rfl) (fun _ => ⟨trivial, ⟨⟨2, rfl⟩, ⟨8, rfl⟩, trivial⟩, trivial⟩) ?_ VAll.nil
                              intro g27785
                              refine VA.all [5, 7] (by kernel_rfl) (by simp) ?_
                              refine VAll.consG (listed' := LB 12 1151) rfl (o_append 0 appm Try.underlying22 EI26 rfl rfl rfl (.inl ⟨3, rfl⟩) (bndm c19543) (ltn rfl)) rfl (by kernel_rfl) (fun _ => ⟨trivial, ⟨⟨2, rfl⟩, ⟨8, rfl⟩, trivial⟩, trivial⟩) ?_ ?_
                              · intro v27778
                                refine VA.oneG (i := 7) (listed' := LB 12 1279) (by kernel_rfl) rfl (o_buildSlice (vals := [(0, .agg #[.int .i64 x27756.f0, .bool x27756.f1, .int .i64 x27756.f2, .int .i64 x27756.f3, .int .i64 x27756.f4, .bool x27756.f5])]) (cells := #[.int .i64 x27756.f0, .bool x27756.f1, .int .i64 x27756.f2, .int .i64 x27756.f3, .int .i64 x27756.f4, .bool x27756.f5]) (es := List.map enc25 ([x27756] : List S25)) Try.underlying22 TI26 Z26 rfl (by decide) (by decide) (by kernel_rfl) (by kernel_rfl) rfl (flat_map enc25_ok _) (ltn rfl)) rfl (by kernel_rfl) (fun _ => ⟨trivial, ⟨⟨2, rfl⟩, ⟨8, rfl⟩, trivial⟩, trivial⟩) ?_
                                intro v27781
                                refine VA.oneG (i := 8) (listed' := LB 12 1535) (by kernel_rfl) rfl (o_append 1 appm Try.underlying22 EI26 rfl rfl rfl (.inr ⟨0, _, rfl⟩) (bndm c27782) (ltn rfl)) rfl (by kernel_rfl) (fun _ => ⟨trivial, ⟨⟨2, rfl⟩, ⟨8, rfl⟩, trivial⟩, trivial⟩) ?_
                                intro v27783
                                refine VA.more ⟨0, [], [], [(g27759, 26, [.int .i64 x27756.f0, .bool x27756.f1, .int .i64 x27756.f2, .int .i64 x27756.f3, .int .i64 x27756.f4, .bool x27756.f5]), (g2, 24, [(.slice (some ad27757) r18.length n27758), .int .i64 t19])], [(v27783, 26, 6, ((([] : List S25) ++ r18) ++ ([x27756] : List S25)).map enc25)]⟩ ⟨trivial, ⟨⟨0, rfl⟩, ⟨1, rfl⟩, trivial⟩, trivial⟩ ?_
                                refine VA.va (i := 9) (listed' := LB 12 2047) rfl (op_build (vals := [(1, .int .i64 t19), (0, v27783)]) (vcs := [(1, [.int .i64 t19]), (0, [v27783])]) (cells := [v27783, .int .i64 t19]) SI24 rfl (.cons ⟨rfl, (.c rfl)⟩ (.cons ⟨rfl, (.r 0 rfl)⟩ .nil)) (by kernel_rfl) (ltn rfl)) rfl (by kernel_rfl) (by kernel_rfl) (by kernel_rfl) (by kernel_rfl) ⟨trivial, ⟨⟨2, rfl⟩, ⟨8, rfl⟩, trivial⟩, ⟨⟨1, rfl⟩, trivial⟩⟩ (fun _ _ _ h => h) ?_
                                refine VA.one1 (i := 11) (listed' := LB 12 4095) (by kernel_rfl) rfl (o_store 0 2 rfl rfl rfl TI24 (.agg (.r 1 rfl (.c rfl .nil))) rfl (len rfl)) rfl (by kernel_rfl) ⟨trivial, ⟨⟨2, rfl⟩, ⟨8, rfl⟩, trivial⟩, ⟨⟨1, rfl⟩, trivial⟩⟩ ?_
                                refine VA.done (by kernel_rfl) ?_
                                exact VN.meet2 g27785 v27783 [0, 1, 2, 3, 4, 5, 6, 7, 8] [1, 2] trivial ⟨rfl, ⟨rfl, rfl, rfl, rfl, rfl, rfl, rfl, rfl, rfl, rfl, rfl, rfl, rfl, trivial⟩, ⟨⟨0, rfl⟩, ⟨1, rfl⟩, ⟨2, rfl⟩, ⟨3, rfl⟩, trivial⟩, rfl, by decide, rfl, by decide⟩
                              refine VAll.consG (listed' := LB 12 1247) rfl (o_buildSlice (vals := [(0, .agg #[.int .i64 x27756.f0, .bool x27756.f1, .int .i64 x27756.f2, .int .i64 x27756.f3, .int .i64 x27756.f4, .bool x27756.f5])]) (cells := #[.int .i64 x27756.f0, .bool x27756.f1, .int .i64 x27756.f2, .int .i64 x27756.f3, .int .i64 x27756.f4, .bool x27756.f5]) (es := List.map enc25 ([x27756] : List S25)) Try.underlying22 TI26 Z26 rfl (by decide) (by decide) (by kernel_rfl) (by kernel_rfl) rfl (flat_map enc25_ok _) (ltn rfl)) rfl (by kernel_rfl) (fun _ => ⟨trivial, ⟨⟨2, rfl⟩, ⟨8, rfl⟩, trivial⟩, trivial⟩) ?_ VAll.nil
                              intro v27781
                              refine VA.oneG (i := 5) (listed' := LB 12 1279) (by kernel_rfl) rfl (o_append 1 appm Try.underlying22 EI26 rfl rfl rfl (.inl ⟨3, rfl⟩) (bndm c19543) (ltn rfl)) rfl (by kernel_rfl) (fun _ => ⟨trivial, ⟨⟨2, rfl⟩, ⟨8, rfl⟩, trivial⟩, trivial⟩) ?_
                              intro v27778
                              refine VA.oneG (i := 8) (listed' := LB 12 1535) (by kernel_rfl) rfl (o_append 1 appm Try.underlying22 EI26 rfl rfl rfl (.inr ⟨0, _, rfl⟩) (bndm c27782) (ltn rfl)) rfl (by kernel_rfl) (fun _ => ⟨trivial, ⟨⟨2, rfl⟩, ⟨8, rfl⟩, trivial⟩, trivial⟩) ?_
                              intro v27783
                              refine VA.more ⟨0, [], [], [(g27759, 26, [.int .i64 x27756.f0, .bool x27756.f1, .int .i64 x27756.f2, .int .i64 x27756.f3, .int .i64 x27756.f4, .bool x27756.f5]), (g2, 24, [(.slice (some ad27757) r18.length n27758), .int .i64 t19])], [(v27783, 26, 6, ((([] : List S25) ++ r18) ++ ([x27756] : List S25)).map enc25)]⟩ ⟨trivial, ⟨⟨0, rfl⟩, ⟨1, rfl⟩, trivial⟩, trivial⟩ ?_
                              refine VA.va (i := 9) (listed' := LB 12 2047) rfl (op_build (vals := [(1, .int .i64 t19), (0, v27783)]) (vcs := [(1, [.int .i64 t19]), (0, [v27783])]) (cells := [v27783, .int .i64 t19]) SI24 rfl (.cons ⟨rfl, (.c rfl)⟩ (.cons ⟨rfl, (.r 0 rfl)⟩ .nil)) (by kernel_rfl) (ltn rfl)) rfl (by kernel_rfl) (by kernel_rfl) (by kernel_rfl) (by kernel_rfl) ⟨trivial, ⟨⟨2, rfl⟩, ⟨8, rfl⟩, trivial⟩, ⟨⟨1, rfl⟩, trivial⟩⟩ (fun _ _ _ h => h) ?_
                              refine VA.one1 (i := 11) (listed' := LB 12 4095) (by kernel_rfl) rfl (o_store 0 2 rfl rfl rfl TI24 (.agg (.r 1 rfl (.c rfl .nil))) rfl (len rfl)) rfl (by kernel_rfl) ⟨trivial, ⟨⟨2, rfl⟩, ⟨8, rfl⟩, trivial⟩, ⟨⟨1, rfl⟩, trivial⟩⟩ ?_
                              refine VA.done (by kernel_rfl) ?_
                              exact VN.meet2 g27785 v27783 [0, 1, 2, 3, 4, 5, 6, 7, 8] [1, 2] trivial ⟨rfl, ⟨rfl, rfl, rfl, rfl, rfl, rfl, rfl, rfl, rfl, rfl, rfl, rfl, rfl, trivial⟩, ⟨⟨0, rfl⟩, ⟨1, rfl⟩, ⟨2, rfl⟩, ⟨3, rfl⟩, trivial⟩, rfl, by decide, rfl, by decide⟩
                            refine VAll.consG (listed' := LB 12 219) rfl (o_buildSlice (vals := [(0, .agg #[.int .i64 x27756.f0, .bool x27756.f1, .int .i64 x27756.f2, .int .i64 x27756.f3, .int .i64 x27756.f4, .bool x27756.f5])]) (cells := #[.int .i64 x27756.f0, .bool x27756.f1, .int .i64 x27756.f2, .int .i64 x27756.f3, .int .i64 x27756.f4, .bool x27756.f5]) (es := List.map enc25 ([x27756] : List S25)) Try.underlying22 TI26 Z26 rfl (by decide) (by decide) (by kernel_rfl) (by kernel_rfl) rfl (flat_map enc25_ok _) (ltn rfl)) rfl (by kernel_rfl) (fun _ => ⟨trivial, ⟨⟨1, rfl⟩, ⟨7, rfl⟩, trivial⟩, trivial⟩) ?_ ?_
                            · intro v27781
                              refine VA.all [2, 10] (by kernel_rfl) (by simp) ?_
                              refine VAll.consG (listed' := LB 12 223) rfl (o_buildSlice (vals := []) (cells := #[]) (es := List.map enc25 ([] : List S25)) Try.underlying22 TI26 Z26 rfl (by decide) (by decide) (by kernel_rfl) (by kernel_rfl) rfl (flat_map enc25_ok _) (ltn rfl)) rfl (by kernel_rfl) (fun _ => ⟨trivial, ⟨⟨1, rfl⟩, ⟨7, rfl⟩, trivial⟩, trivial⟩) ?_ ?_
                              · intro v27777
                                refine VA.all [5, 10] (by kernel_rfl) (by simp) ?_
                                refine VAll.consG (listed' := LB 12 255) rfl (o_append 0 appm Try.underlying22 EI26 rfl rfl rfl (.inl ⟨3, rfl⟩) (bndm c19543) (ltn rfl)) rfl (by kernel_rfl) (fun _ => ⟨trivial, ⟨⟨1, rfl⟩, ⟨7, rfl⟩, trivial⟩, trivial⟩) ?_ ?_
                                · intro v27778
                                  refine VA.all [8, 10] (by kernel_rfl) (by simp) ?_
                                  refine VAll.consG (listed' := LB 12 511) rfl (o_append 0 appm Try.underlying22 EI26 rfl rfl rfl (.inr ⟨1, _, rfl⟩) (bndm c27782) (ltn rfl)) rfl (by kernel_rfl) (fun _ => ⟨trivial, ⟨⟨1, rfl⟩, ⟨7, rfl⟩, trivial⟩, trivial⟩) ?_ ?_
                                  · intro v27783
                                    refine VA.more ⟨0, [], [], [(g27759, 26, [.int .i64 x27756.f0, .bool x27756.f1, .int .i64 x27756.f2, .int .i64 x27756.f3, .int .i64 x27756.f4, .bool x27756.f5]), (g2, 24, [(.slice (some ad27757) r18.length n27758), .int .i64 t19])], [(v27783, 26, 6, ((([] : List S25) ++ r18) ++ ([x27756] : List S25)).map enc25)]⟩ ⟨trivial, ⟨⟨0, rfl⟩, ⟨1, rfl⟩, trivial⟩, trivial⟩ ?_
                                    refine VA.va (i := 9) (listed' := LB 12 1023) rfl (op_build (vals := [(1, .int .i64 t19), (0, v27783)]) (vcs := [(1, [.int .i64 t19]), (0, [v27783])]) (cells := [v27783, .int .i64 t19]) SI24 rfl (.cons ⟨rfl, (.c rfl)⟩ (.cons ⟨rfl, (.r 0 rfl)⟩ .nil)) (by kernel_rfl) (ltn rfl)) rfl (by kernel_rfl) (by kernel_rfl) (by kernel_rfl) (by kernel_rfl) ⟨trivial, ⟨⟨1, rfl⟩, ⟨7, rfl⟩, trivial⟩, ⟨⟨0, rfl⟩, trivial⟩⟩ (fun _ _ _ h => h) ?_
                                    refine VA.oneG (i := 10) (listed' := LB 12 2047) (by kernel_rfl) rfl (o_alloc (us := [.slice none 0 0, .int .i64 0]) Z24 rfl (ltn rfl)) rfl (by kernel_rfl) (fun _ => ⟨trivial, ⟨⟨2, rfl⟩, ⟨8, rfl⟩, trivial⟩, ⟨⟨0, rfl⟩, trivial⟩⟩) ?_
                                    intro g27785
                                    refine VA.one1 (i := 11) (listed' := LB 12 4095) (by kernel_rfl) rfl (o_store 0 2 rfl rfl rfl TI24 (.agg (.r 0 rfl (.c rfl .nil))) rfl (len rfl)) rfl (by kernel_rfl) ⟨trivial, ⟨⟨2, rfl⟩, ⟨8, rfl⟩, trivial⟩, ⟨⟨0, rfl⟩, trivial⟩⟩ ?_
                                    refine VA.done (by kernel_rfl) ?_
                                    exact VN.meet2 g27785 v27783 [0, 1, 2, 3, 4, 5, 6, 7, 8] [0, 2] trivial ⟨rfl, ⟨rfl, rfl, rfl, rfl, rfl, rfl, rfl, rfl, rfl, rfl, rfl, rfl, rfl, trivial⟩, ⟨⟨0, rfl⟩, ⟨1, rfl⟩, ⟨2, rfl⟩, ⟨3, rfl⟩, trivial⟩, rfl, by decide, rfl, by decide⟩
                                  refine VAll.consG (listed' := LB 12 1279) rfl (o_alloc (us := [.slice none 0 0, .int .i64 0]) Z24 rfl (ltn rfl)) rfl (by kernel_rfl) (fun _ => ⟨trivial, ⟨⟨2, rfl⟩, ⟨8, rfl⟩, trivial⟩, trivial⟩) ?_ VAll.nil
                                  intro g27785
                                  refine VA.oneG (i := 8) (listed' := LB 12 1535) (by kernel_rfl) rfl (o_append 0 appm Try.underlying22 EI26 rfl rfl rfl (.inr ⟨1, _, rfl⟩) (bndm c27782) (ltn rfl)) rfl (by kernel_rfl) (fun _ => ⟨trivial, ⟨⟨2, rfl⟩, ⟨8, rfl⟩, trivial⟩, trivial⟩) ?_
                                  intro v27783
                                  refine VA.more ⟨0, [], [], [(g27759, 26, [.int .i64 x27756.f0, .bool x27756.f1, .int .i64 x27756.f2, .int .i64 x27756.f3, .int .i64 x27756.f4, .bool x27756.f5]), (g2, 24, [(.slice (some ad27757) r18.length n27758), .int .i64 t19])], [(v27783, 26, 6, ((([] : List S25) ++ r18) ++ ([x27756] : List S25)).map enc25)]⟩ ⟨trivial, ⟨⟨0, rfl⟩, ⟨1, rfl⟩, trivial⟩, trivial⟩ ?_
                                  refine VA.va (i := 9) (listed' := LB 12 2047) rfl (op_build (vals := [(1, .int .i64 t19), (0, v27783)]) (vcs := [(1, [.int .i64 t19]), (0, [v27783])]) (cells := [v27783, .int .i64 t19]) SI24 rfl (.cons ⟨rfl, (.c rfl)⟩ (.cons ⟨rfl, (.r 0 rfl)⟩ .nil)) (by kernel_rfl) (ltn rfl)) rfl (by kernel_rfl) (by kernel_rfl) (by kernel_rfl) (by kernel_rfl) ⟨trivial, ⟨⟨2, rfl⟩, ⟨8, rfl⟩, trivial⟩, ⟨⟨0, rfl⟩, trivial⟩⟩ (fun _ _ _ h => h) ?_
                                  refine VA.one1 (i := 11) (listed' := LB 12 4095) (by kernel_rfl) rfl (o_store 0 2 rfl rfl rfl TI24 (.agg (.r 0 rfl (.c rfl .nil))) rfl (len rfl)) rfl (by kernel_rfl) ⟨trivial, ⟨⟨2, rfl⟩, ⟨8, rfl⟩, trivial⟩, ⟨⟨0, rfl⟩, trivial⟩⟩ ?_
                                  refine VA.done (by kernel_rfl) ?_
                                  exact VN.meet2 g27785 v27783 [0, 1, 2, 3, 4, 5, 6, 7, 8] [0, 2] trivial ⟨rfl, ⟨rfl, rfl, rfl, rfl, rfl, rfl, rfl, rfl, rfl, rfl, rfl, rfl, rfl, trivial⟩, ⟨⟨0, rfl⟩, ⟨1, rfl⟩, ⟨2, rfl⟩, ⟨3, rfl⟩, trivial⟩, rfl, by decide, rfl, by decide⟩
                                refine VAll.consG (listed' := LB 12 1247) rfl (o_alloc (us := [.slice none 0 0, .int .i64 0]) Z24 rfl (ltn rfl)) rfl (by kernel_rfl) (fun _ => ⟨trivial, ⟨⟨2, rfl⟩, ⟨8, rfl⟩, trivial⟩, trivial⟩) ?_ VAll.nil
                                intro g27785
                                refine VA.oneG (i := 5) (listed' := LB 12 1279) (by kernel_rfl) rfl (o_append 0 appm Try.underlying22 EI26 rfl rfl rfl (.inl ⟨3, rfl⟩) (bndm c19543) (ltn rfl)) rfl (by kernel_rfl) (fun _ => ⟨trivial, ⟨⟨2, rfl⟩, ⟨8, rfl⟩, trivial⟩, trivial⟩) ?_
                                intro v27778
                                refine VA.oneG (i := 8) (listed' := LB 12 1535) (by kernel_rfl) rfl (o_append 0 appm Try.underlying22 EI26 rfl rfl rfl (.inr ⟨1, _, rfl⟩) (bndm c27782) (ltn rfl)) rfl (by kernel_rfl) (fun _ => ⟨trivial, ⟨⟨2, rfl⟩, ⟨8, rfl⟩, trivial⟩, trivial⟩) ?_
                                intro v27783
                                refine VA.more ⟨0, [], [], [(g27759, 26, [.int .i64 x27756.f0, .bool x27756.f1, .int .i64 x27756.f2, .int .i64 x27756.f3, .int .i64 x27756.f4, .bool x27756.f5]), (g2, 24, [(.slice (some ad27757) r18.length n27758), .int .i64 t19])], [(v27783, 26, 6, ((([] : List S25) ++ r18) ++ ([x27756] : List S25)).map enc25)]⟩ ⟨trivial, ⟨⟨0, rfl⟩, ⟨1, rfl⟩, trivial⟩, trivial⟩ ?_
                                refine VA.va (i := 9) (listed' := LB 12 2047) rfl (op_build (vals := [(1, .int .i64 t19), (0, v27783)]) (vcs := [(1, [.int .i64 t19]), (0, [v27783])]) (cells := [v27783, .int .i64 t19]) SI24 rfl (.cons ⟨rfl, (.c rfl)⟩ (.cons ⟨rfl, (.r 0 rfl)⟩ .nil)) (by kernel_rfl) (ltn rfl)) rfl (by kernel_rfl) (by kernel_rfl) (by kernel_rfl) (by kernel_rfl) ⟨trivial, ⟨⟨2, rfl⟩, ⟨8, rfl⟩, trivial⟩, ⟨⟨0, rfl⟩, trivial⟩⟩ (fun _ _ _ h => h) ?_
                                refine VA.one1 (i := 11) (listed' := LB 12 4095) (by kernel_rfl) rfl (o_store 0 2 rfl rfl rfl TI24 (.agg (.r 0 rfl (.c rfl .nil))) rfl (len rfl)) rfl (by kernel_rfl) ⟨trivial, ⟨⟨2, rfl⟩, ⟨8, rfl⟩, trivial⟩, ⟨⟨0, rfl⟩, trivial⟩⟩ ?_
                                refine VA.done (by kernel_rfl) ?_
                                exact VN.meet2 g27785 v27783 [0, 1, 2, 3, 4, 5, 6, 7, 8] [0, 2] trivial ⟨rfl, ⟨rfl, rfl, rfl, rfl, rfl, rfl, rfl, rfl, rfl, rfl, rfl, rfl, rfl, trivial⟩, ⟨⟨0, rfl⟩, ⟨1, rfl⟩, ⟨2, rfl⟩, ⟨3, rfl⟩, trivial⟩, rfl, by decide, rfl, by decide⟩
                              refine VAll.consG (listed' := LB 12 1243) rfl (o_alloc (us := [.slice none 0 0, .int .i64 0]) Z24 rfl (ltn rfl)) rfl (by kernel_rfl) (fun _ => ⟨trivial, ⟨⟨2, rfl⟩, ⟨8, rfl⟩, trivial⟩, trivial⟩) ?_ VAll.nil
                              intro g27785
                              refine VA.oneG (i := 2) (listed' := LB 12 1247) (by kernel_rfl) rfl (o_buildSlice (vals := []) (cells := #[]) (es := List.map enc25 ([] : List S25)) Try.underlying22 TI26 Z26 rfl (by decide) (by decide) (by kernel_rfl) (by kernel_rfl) rfl (flat_map enc25_ok _) (ltn rfl)) rfl (by kernel_rfl) (fun _ => ⟨trivial, ⟨⟨2, rfl⟩, ⟨8, rfl⟩, trivial⟩, trivial⟩) ?_
                              intro v27777
                              refine VA.oneG (i := 5) (listed' := LB 12 1279) (by kernel_rfl) rfl (o_append 0 appm Try.underlying22 EI26 rfl rfl rfl (.inl ⟨3, rfl⟩) (bndm c19543) (ltn rfl)) rfl (by kernel_rfl) (fun _ => ⟨trivial, ⟨⟨2, rfl⟩, ⟨8, rfl⟩, trivial⟩, trivial⟩) ?_
                              intro v27778
                              refine VA.oneG (i := 8) (listed' := LB 12 1535) (by kernel_rfl) rfl (o_append 0 appm Try.underlying22 EI26 rfl rfl rfl (.inr ⟨1, _, rfl⟩) (bndm c27782) (ltn rfl)) rfl (by kernel_rfl) (fun _ => ⟨trivial, ⟨⟨2, rfl⟩, ⟨8, rfl⟩, trivial⟩, trivial⟩) ?_
                              intro v27783
                              refine VA.more ⟨0, [], [], [(g27759, 26, [.int .i64 x27756.f0, .bool x27756.f1, .int .i64 x27756.f2, .int .i64 x27756.f3, .int .i64 x27756.f4, .bool x27756.f5]), (g2, 24, [(.slice (some ad27757) r18.length n27758), .int .i64 t19])], [(v27783, 26, 6, ((([] : List S25) ++ r18) ++ ([x27756] : List S25)).map enc25)]⟩ ⟨trivial, ⟨⟨0, rfl⟩, ⟨1, rfl⟩, trivial⟩, trivial⟩ ?_
                              refine VA.va (i := 9) (listed' := LB 12 2047) rfl (op_build (vals := [(1, .int .i64 t19), (0, v27783)]) (vcs := [(1, [.int .i64 t19]), (0, [v27783])]) (cells := [v27783, .int .i64 t19]) SI24 rfl (.cons ⟨rfl, (.c rfl)⟩ (.cons ⟨rfl, (.r 0 rfl)⟩ .nil)) (by kernel_rfl) (ltn rfl)) rfl (by kernel_rfl) (by kernel_rfl) (by kernel_rfl) (by kernel_rfl) ⟨trivial, ⟨⟨2, rfl⟩, ⟨8, rfl⟩, trivial⟩, ⟨⟨0, rfl⟩, trivial⟩⟩ (fun _ _ _ h => h) ?_
                              refine VA.one1 (i := 11) (listed' := LB 12 4095) (by kernel_rfl) rfl (o_store 0 2 rfl rfl rfl TI24 (.agg (.r 0 rfl (.c rfl .nil))) rfl (len rfl)) rfl (by kernel_rfl) ⟨trivial, ⟨⟨2, rfl⟩, ⟨8, rfl⟩, trivial⟩, ⟨⟨0, rfl⟩, trivial⟩⟩ ?_
                              refine VA.done (by kernel_rfl) ?_
                              exact VN.meet2 g27785 v27783 [0, 1, 2, 3, 4, 5, 6, 7, 8] [0, 2] trivial ⟨rfl, ⟨rfl, rfl, rfl, rfl, rfl, rfl, rfl, rfl, rfl, rfl, rfl, rfl, rfl, trivial⟩, ⟨⟨0, rfl⟩, ⟨1, rfl⟩, ⟨2, rfl⟩, ⟨3, rfl⟩, trivial⟩, rfl, by decide, rfl, by decide⟩
                            refine VAll.consG (listed' := LB 12 1115) rfl (o_alloc (us := [.slice none 0 0, .int .i64 0]) Z24 rfl (ltn rfl)) rfl (by kernel_rfl) (fun _ => ⟨trivial, ⟨⟨2, rfl⟩, ⟨8, rfl⟩, trivial⟩, trivial⟩) ?_ VAll.nil
                            intro g27785
                            refine VA.all [2, 7] (by kernel_rfl) (by simp) ?_
                            refine VAll.consG (listed' := LB 12 1119) rfl (o_buildSlice (vals := []) (cells := #[]) (es := List.map enc25 ([] : List S25)) Try.underlying22 TI26 Z26 rfl (by decide) (by decide) (by kernel_rfl) (by kernel_rfl) rfl (flat_map enc25_ok _) (ltn rfl)) rfl (by kernel_rfl) (fun _ => ⟨trivial, ⟨⟨2, rfl⟩, ⟨8, rfl⟩, trivial⟩, trivial⟩) ?_ ?_
                            · intro v27777
                              refine VA.all [5, 7] (by kernel_rfl) (by simp) ?_
                              refine VAll.consG (listed' := LB 12 1151) rfl (o_append 0 appm Try.underlying22 EI26 rfl rfl rfl (.inl ⟨3, rfl⟩) (bndm c19543) (ltn rfl)) rfl (by kernel_rfl) (fun _ => ⟨trivial, ⟨⟨2, rfl⟩, ⟨8, rfl⟩, trivial⟩, trivial⟩) ?_ ?_
                              · intro v27778
                                refine VA.oneG (i := 7) (listed' := LB 12 1279) (by kernel_rfl) rfl (o_buildSlice (vals := [(0, .agg #[.int .i64 x27756.f0, .bool x27756.f1, .int .i64 x27756.f2, .int .i64 x27756.f3, .int .i64 x27756.f4, .bool x27756.f5])]) (cells := #[.int .i64 x27756.f0, .bool x27756.f1, .int .i64 x27756.f2, .int .i64 x27756.f3, .int .i64 x27756.f4, .bool x27756.f5]) (es := List.map enc25 ([x27756] : List S25)) Try.underlying22 TI26 Z26 rfl (by decide) (by decide) (by kernel_rfl) (by kernel_rfl) rfl (flat_map enc25_ok _) (ltn rfl)) rfl (by kernel_rfl) (fun _ => ⟨trivial, ⟨⟨2, rfl⟩, ⟨8, rfl⟩, trivial⟩, trivial⟩) ?_
                                intro v27781
                                refine VA.oneG (i := 8) (listed' := LB 12 1535) (by kernel_rfl) rfl (o_append 1 appm Try.underlying22 EI26 rfl rfl rfl (.inr ⟨0, _, rfl⟩) (bndm c27782) (ltn rfl)) rfl (by kernel_rfl) (fun _ => ⟨trivial, ⟨⟨2, rfl⟩, ⟨8, rfl⟩, trivial⟩, trivial⟩) ?_
                                intro v27783
                                refine VA.more ⟨0, [], [], [(g27759, 26, [.int .i64 x27756.f0, .bool x27756.f1, .int .i64 x27756.f2, .int .i64 x27756.f3, .int .i64 x27756.f4, .bool x27756.f5]), (g2, 24, [(.slice (some ad27757) r18.length n27758), .int .i64 t19])], [(v27783, 26, 6, ((([] : List S25) ++ r18) ++ ([x27756] : List S25)).map enc25)]⟩ ⟨trivial, ⟨⟨0, rfl⟩, ⟨1, rfl⟩, trivial⟩, trivial⟩ ?_
                                refine VA.va (i := 9) (listed' := LB 12 2047) rfl (op_build (vals := [(1, .int .i64 t19), (0, v27783)]) (vcs := [(1, [.int .i64 t19]), (0, [v27783])]) (cells := [v27783, .int .i64 t19]) SI24 rfl (.cons ⟨rfl, (.c rfl)⟩ (.cons ⟨rfl, (.r 0 rfl)⟩ .nil)) (by kernel_rfl) (ltn rfl)) rfl (by kernel_rfl) (by kernel_rfl) (by kernel_rfl) (by kernel_rfl) ⟨trivial, ⟨⟨2, rfl⟩, ⟨8, rfl⟩, trivial⟩, ⟨⟨1, rfl⟩, trivial⟩⟩ (fun _ _ _ h => h) ?_
                                refine VA.one1 (i := 11) (listed' := LB 12 4095) (by kernel_rfl) rfl (o_store 0 2 rfl rfl rfl TI24 (.agg (.r 1 rfl (.c rfl .nil))) rfl (len rfl)) rfl (by kernel_rfl) ⟨trivial, ⟨⟨2, rfl⟩, ⟨8, rfl⟩, trivial⟩, ⟨⟨1, rfl⟩, trivial⟩⟩ ?_
                                refine VA.done (by kernel_rfl) ?_
                                exact VN.meet2 g27785 v27783 [0, 1, 2, 3, 4, 5, 6, 7, 8] [1, 2] trivial ⟨rfl, ⟨rfl, rfl, rfl, rfl, rfl, rfl, rfl, rfl, rfl, rfl, rfl, rfl, rfl, trivial⟩, ⟨⟨0, rfl⟩, ⟨1, rfl⟩, ⟨2, rfl⟩, ⟨3, rfl⟩, trivial⟩, rfl, by decide, rfl, by decide⟩
                              refine VAll.consG (listed' := LB 12 1247) rfl (o_buildSlice (vals := [(0, .agg #[.int .i64 x27756.f0, .bool x27756.f1, .int .i64 x27756.f2, .int .i64 x27756.f3, .int .i64 x27756.f4, .bool x27756.f5])]) (cells := #[.int .i64 x27756.f0, .bool x27756.f1, .int .i64 x27756.f2, .int .i64 x27756.f3, .int .i64 x27756.f4, .bool x27756.f5]) (es := List.map enc25 ([x27756] : List S25)) Try.underlying22 TI26 Z26 rfl (by decide) (by decide) (by kernel_rfl) (by kernel_rfl) rfl (flat_map enc25_ok _) (ltn rfl)) rfl (by kernel_rfl) (fun _ => ⟨trivial, ⟨⟨2, rfl⟩, ⟨8, rfl⟩, trivial⟩, trivial⟩) ?_ VAll.nil
                              intro v27781
                              refine VA.oneG (i := 5) (listed' := LB 12 1279) (by kernel_rfl) rfl (o_append 1 appm Try.underlying22 EI26 rfl rfl rfl (.inl ⟨3, rfl⟩) (bndm c19543) (ltn rfl)) rfl (by kernel_rfl) (fun _ => ⟨trivial, ⟨⟨2, rfl⟩, ⟨8, rfl⟩, trivial⟩, trivial⟩) ?_
                              intro v27778
                              refine VA.oneG (i := 8) (listed' := LB 12 1535) (by kernel_rfl) rfl (o_append 1 appm Try.underlying22 EI26 rfl rfl rfl (.inr ⟨0, _, rfl⟩) (bndm c27782) (ltn rfl)) rfl (by kernel_rfl) (fun _ => ⟨trivial, ⟨⟨2, rfl⟩, ⟨8, rfl⟩, trivial⟩, trivial⟩) ?_
                              intro v27783
                              refine VA.more ⟨0, [], [], [(g27759, 26, [.int .i64 x27756.f0, .bool x27756.f1, .int .i64 x27756.f2, .int .i64 x27756.f3, .int .i64 x27756.f4, .bool x27756.f5]), (g2, 24, [(.slice (some ad27757) r18.length n27758), .int .i64 t19])], [(v27783, 26, 6, ((([] : List S25) ++ r18) ++ ([x27756] : List S25)).map enc25)]⟩ ⟨trivial, ⟨⟨0, rfl⟩, ⟨1, rfl⟩, trivial⟩, trivial⟩ ?_
                              refine VA.va (i := 9) (listed' := LB 12 2047) rfl (op_build (vals := [(1, .int .i64 t19), (0, v27783)]) (vcs := [(1, [.int .i64 t19]), (0, [v27783])]) (cells := [v27783, .int .i64 t19]) SI24 rfl (.cons ⟨rfl, (.c rfl)⟩ (.cons ⟨rfl, (.r 0 rfl)⟩ .nil)) (by kernel_rfl) (ltn rfl)) rfl (by kernel_rfl) (by kernel_rfl) (by kernel_rfl) (by kernel_rfl) ⟨trivial, ⟨⟨2, rfl⟩, ⟨8, rfl⟩, trivial⟩, ⟨⟨1, rfl⟩, trivial⟩⟩ (fun _ _ _ h => h) ?_
                              refine VA.one1 (i := 11) (listed' := LB 12 4095) (by kernel_rfl) rfl (o_store 0 2 rfl rfl rfl TI24 (.agg (.r 1 rfl (.c rfl .nil))) rfl (len rfl)) rfl (by kernel_rfl) ⟨trivial, ⟨⟨2, rfl⟩, ⟨8, rfl⟩, trivial⟩, ⟨⟨1, rfl⟩, trivial⟩⟩ ?_
                              refine VA.done (by kernel_rfl) ?_
                              exact VN.meet2 g27785 v27783 [0, 1, 2, 3, 4, 5, 6, 7, 8] [1, 2] trivial ⟨rfl, ⟨rfl, rfl, rfl, rfl, rfl, rfl, rfl, rfl, rfl, rfl, rfl, rfl, rfl, trivial⟩, ⟨⟨0, rfl⟩, ⟨1, rfl⟩, ⟨2, rfl⟩, ⟨3, rfl⟩, trivial⟩, rfl, by decide, rfl, by decide⟩
                            refine VAll.consG (listed' := LB 12 1243) rfl (o_buildSlice (vals := [(0, .agg #[.int .i64 x27756.f0, .bool x27756.f1, .int .i64 x27756.f2, .int .i64 x27756.f3, .int .i64 x27756.f4, .bool x27756.f5])]) (cells := #[.int .i64 x27756.f0, .bool x27756.f1, .int .i64 x27756.f2, .int .i64 x27756.f3, .int .i64 x27756.f4, .bool x27756.f5]) (es := List.map enc25 ([x27756] : List S25)) Try.underlying22 TI26 Z26 rfl (by decide) (by decide) (by kernel_rfl) (by kernel_rfl) rfl (flat_map enc25_ok _) (ltn rfl)) rfl (by kernel_rfl) (fun _ => ⟨trivial, ⟨⟨2, rfl⟩, ⟨8, rfl⟩, trivial⟩, trivial⟩) ?_ VAll.nil
                            intro v27781
                            refine VA.oneG (i := 2) (listed' := LB 12 1247) (by kernel_rfl) rfl (o_buildSlice (vals := []) (cells := #[]) (es := List.map enc25 ([] : List S25)) Try.underlying22 TI26 Z26 rfl (by decide) (by decide) (by kernel_rfl) (by kernel_rfl) rfl (flat_map enc25_ok _) (ltn rfl)) rfl (by kernel_rfl) (fun _ => ⟨trivial, ⟨⟨2, rfl⟩, ⟨8, rfl⟩, trivial⟩, trivial⟩) ?_
                            intro v27777
                            refine VA.oneG (i := 5) (listed' := LB 12 1279) (by kernel_rfl) rfl (o_append 0 appm Try.underlying22 EI26 rfl rfl rfl (.inl ⟨3, rfl⟩) (bndm c19543) (ltn rfl)) rfl (by kernel_rfl) (fun _ => ⟨trivial, ⟨⟨2, rfl⟩, ⟨8, rfl⟩, trivial⟩, trivial⟩) ?_
                            intro v27778
                            refine VA.oneG (i := 8) (listed' := LB 12 1535) (by kernel_rfl) rfl (o_append 0 appm Try.underlying22 EI26 rfl rfl rfl (.inr ⟨1, _, rfl⟩) (bndm c27782) (ltn rfl)) rfl (by kernel_rfl) (fun _ => ⟨trivial, ⟨⟨2, rfl⟩, ⟨8, rfl⟩, trivial⟩, trivial⟩) ?_
                            intro v27783
                            refine VA.more ⟨0, [], [], [(g27759, 26, [.int .i64 x27756.f0, .bool x27756.f1, .int .i64 x27756.f2, .int .i64 x27756.f3, .int .i64 x27756.f4, .bool x27756.f5]), (g2, 24, [(.slice (some ad27757) r18.length n27758), .int .i64 t19])], [(v27783, 26, 6, ((([] : List S25) ++ r18) ++ ([x27756] : List S25)).map enc25)]⟩ ⟨trivial, ⟨⟨0, rfl⟩, ⟨1, rfl⟩, trivial⟩, trivial⟩ ?_
                            refine VA.va (i := 9) (listed' := LB 12 2047) rfl (op_build (vals := [(1, .int .i64 t19), (0, v27783)]) (vcs := [(1, [.int .i64 t19]), (0, [v27783])]) (cells := [v27783, .int .i64 t19]) SI24 rfl (.cons ⟨rfl, (.c rfl)⟩ (.cons ⟨rfl, (.r 0 rfl)⟩ .nil)) (by kernel_rfl) (ltn rfl)) rfl (by kernel_rfl) (by kernel_rfl) (by kernel_rfl) (by kernel_rfl) ⟨trivial, ⟨⟨2, rfl⟩, ⟨8, rfl⟩, trivial⟩, ⟨⟨0, rfl⟩, trivial⟩⟩ (fun _ _ _ h => h) ?_
                            refine VA.one1 (i := 11) (listed' := LB 12 4095) (by kernel_rfl) rfl (o_store 0 2 rfl rfl rfl TI24 (.agg (.r 0 rfl (.c rfl .nil))) rfl (len rfl)) rfl (by kernel_rfl) ⟨trivial, ⟨⟨2, rfl⟩, ⟨8, rfl⟩, trivial⟩, ⟨⟨0, rfl⟩, trivial⟩⟩ ?_
                            refine VA.done (by kernel_rfl) ?_
                            exact VN.meet2 g27785 v27783 [0, 1, 2, 3, 4, 5, 6, 7, 8] [0, 2] trivial ⟨rfl, ⟨rfl, rfl, rfl, rfl, rfl, rfl, rfl, rfl, rfl, rfl, rfl, rfl, rfl, trivial⟩, ⟨⟨0, rfl⟩, ⟨1, rfl⟩, ⟨2, rfl⟩, ⟨3, rfl⟩, trivial⟩, rfl, by decide, rfl, by decide⟩
                          intro g27785 v27783 _
                          by_cases c27788 : (([] : List S25).length + ((([] : List S25) ++ ((r18.take a2.toNat).drop 0)) ++ ((r18.take r18.length).drop ((wrap64 (a2 + 1)).toNat))).length) * 48 ≤ 140737488355328
                          · rw [if_pos c27788] at h
                            by_cases c27793 : ((([] : List S25) ++ ((([] : List S25) ++ ((r18.take a2.toNat).drop 0)) ++ ((r18.take r18.length).drop ((wrap64 (a2 + 1)).toNat)))).length + ([x27756] : List S25).length) * 48 ≤ 140737488355328
                            · rw [if_pos c27793] at h
                              refine VC.join2 (fun (g27796 : Nat) (v27794 : Value) => ⟨261, [(3, .pointer (some ⟨g2, 0, none⟩)), (6, .bool false), (10, .pointer (some ⟨g557, 0, none⟩)), (11, .pointer (some ⟨g558, 0, none⟩)), (12, .int .i64 t553), (13, .pointer (some ⟨g634, 0, none⟩)), (14, .int .i64 t630), (15, .pointer (some ⟨g696, 0, none⟩)), (16, .int .i64 t692), (17, .pointer (some ⟨g697, 0, none⟩)), (21, .pointer (some ⟨g27759, 0, none⟩)), (22, .pointer (some ⟨g27775, 0, none⟩)), (23, .pointer (some ⟨g27785, 0, none⟩)), (24, .pointer (some ⟨g27796, 0, none⟩))], [.row v695 6 (r690.map enc25), .row v633 6 (r628.map enc25), .row v556 6 (r545.map enc25), .row (.slice (some ad27757) r18.length n27758) 6 (r18.map enc25)], [(g27796, 24, [v27794, .int .i64 t19]), (g27785, 24, [v27783, .int .i64 t19]), (g27775, 24, [v27773, .int .i64 t19]), (g27759, 26, [.int .i64 x27756.f0, .bool x27756.f1, .int .i64 x27756.f2, .int .i64 x27756.f3, .int .i64 x27756.f4, .bool x27756.f5]), (g697, 24, [.slice none 0 0, .int .i64 0]), (g696, 24, [v695, .int .i64 t691]), (g634, 24, [v633, .int .i64 t629]), (g558, 26, [.int .i64 t547, .bool t548, .int .i64 t549, .int .i64 t550, .int .i64 t551, .bool t552]), (g557, 24, [v556, .int .i64 t546]), (g2, 24, [(.slice (some ad27757) r18.length n27758), .int .i64 t19])], [(v27794, 26, 6, ((([] : List S25) ++ ((([] : List S25) ++ ((r18.take a2.toNat).drop 0)) ++ ((r18.take r18.length).drop ((wrap64 (a2 + 1)).toNat)))) ++ ([x27756] : List S25)).map enc25), (v27783, 26, 6, ((([] : List S25) ++ r18) ++ ([x27756] : List S25)).map enc25), (v27773, 26, 6, ((([] : List S25) ++ ((r18.take a2.toNat).drop 0)) ++ ((r18.take r18.length).drop ((wrap64 (a2 + 1)).toNat))).map enc25)]⟩) (fun (g27796 : Nat) (v27794 : Value) => True) ?_ ?_
                              · refine VC.draw ⟨0, [], [], [(g27775, 24, [v27773, .int .i64 t19]), (g27759, 26, [.int .i64 x27756.f0, .bool x27756.f1, .int .i64 x27756.f2, .int .i64 x27756.f3, .int .i64 x27756.f4, .bool x27756.f5]), (g2, 24, [(.slice (some ad27757) r18.length n27758), .int .i64 t19])], []⟩ (by kernel_rfl) rfl (by kernel_rfl) (n := 12) (listed := LB 12 0) ?_
                                refine VA.va (i := 0) (listed' := LB 12 1) rfl (op_fieldAddr FI24_1 rfl (add_at _ _ _) (ltn rfl)) rfl (by kernel_rfl) (by kernel_rfl) (by kernel_rfl) (by kernel_rfl) ⟨trivial, ⟨⟨1, rfl⟩, ⟨2, rfl⟩, ⟨8, rfl⟩, trivial⟩, trivial⟩ (fun _ _ _ h => h) ?_
                                refine VA.va (i := 1) (listed' := LB 12 3) rfl (op_load 2 1 rfl rfl TI3 rfl (by decide) (ltn rfl)) rfl (by kernel_rfl) (by kernel_rfl) (by kernel_rfl) (by kernel_rfl) ⟨trivial, ⟨⟨1, rfl⟩, ⟨2, rfl⟩, ⟨8, rfl⟩, trivial⟩, trivial⟩ (fun _ _ _ h => h) ?_
                                refine VA.va (i := 3) (listed' := LB 12 11) rfl (op_fieldAddr FI24_0 rfl (add_at _ _ _) (ltn rfl)) rfl (by kernel_rfl) (by kernel_rfl) (by kernel_rfl) (by kernel_rfl) ⟨trivial, ⟨⟨1, rfl⟩, ⟨2, rfl⟩, ⟨8, rfl⟩, trivial⟩, trivial⟩ (fun _ _ _ h => h) ?_
                                refine VA.va (i := 4) (listed' := LB 12 27) rfl (op_load 0 1 rfl rfl TI22 rfl (by decide) (ltn rfl)) rfl (by kernel_rfl) (by kernel_rfl) (by kernel_rfl) (by kernel_rfl) ⟨trivial, ⟨⟨1, rfl⟩, ⟨2, rfl⟩, ⟨8, rfl⟩, trivial⟩, trivial⟩ (fun _ _ _ h => h) ?_
                                refine VA.va (i := 6) (listed' := LB 12 91) rfl (op_load 1 6 rfl rfl TI26 rfl (fun h => absurd h (by decide)) (ltn rfl)) rfl (by kernel_rfl) (by kernel_rfl) (by kernel_rfl) (by kernel_rfl) ⟨trivial, ⟨⟨1, rfl⟩, ⟨2, rfl⟩, ⟨8, rfl⟩, trivial⟩, trivial⟩ (fun _ _ _ h => h) ?_
                                refine VA.all [2, 7, 10] (by kernel_rfl) (by simp) ?_
                                refine VAll.consG (listed' := LB 12 95) rfl (o_buildSlice (vals := []) (cells := #[]) (es := List.map enc25 ([] : List S25)) Try.underlying22 TI26 Z26 rfl (by decide) (by decide) (by kernel_rfl) (by kernel_rfl) rfl (flat_map enc25_ok _) (ltn rfl)) rfl (by kernel_rfl) (fun _ => ⟨trivial, ⟨⟨1, rfl⟩, ⟨2, rfl⟩, ⟨8, rfl⟩, trivial⟩, trivial⟩) ?_ ?_
                                · intro v27787
                                  refine VA.all [5, 7, 10] (by kernel_rfl) (by simp) ?_
                                  refine VAll.consG (listed' := LB 12 127) rfl (o_append 0 appm Try.underlying22 EI26 rfl rfl rfl (.inr ⟨2, _, rfl⟩) (bndm c27788) (ltn rfl)) rfl (by kernel_rfl) (fun _ => ⟨trivial, ⟨⟨1, rfl⟩, ⟨2, rfl⟩, ⟨8, rfl⟩, trivial⟩, trivial⟩) ?_ ?_
                                  · intro v27789
                                    refine VA.all [7, 10] (by kernel_rfl) (by simp) ?_
                                    refine VAll.consG (listed' := LB 12 255) rfl (o_buildSlice (vals := [(0, .agg #[.int .i64 x27756.f0, .bool x27756.f1, .int .i64 x27756.f2, .int .i64 x27756.f3, .int .i64 x27756.f4, .bool x27756.f5])]) (cells := #[.int .i64 x27756.f0, .bool x27756.f1, .int .i64 x27756.f2, .int .i64 x27756.f3, .int .i64 x27756.f4, .bool x27756.f5]) (es := List.map enc25 ([x27756] : List S25)) Try.underlying22 TI26 Z26 rfl (by decide) (by decide) (by kernel_rfl) (by kernel_rfl) rfl (flat_map enc25_ok _) (ltn rfl)) rfl (by kernel_rfl) (fun _ => ⟨trivial, ⟨⟨1, rfl⟩, ⟨2, rfl⟩, ⟨8, rfl⟩, trivial⟩, trivial⟩) ?_ ?_
                                    · intro v27792
                                      refine VA.all [8, 10] (by kernel_rfl) (by simp) ?_
                                      refine VAll.consG (listed' := LB 12 511) rfl (o_append 1 appm Try.underlying22 EI26 rfl rfl rfl (.inr ⟨0, _, rfl⟩) (bndm c27793) (ltn rfl)) rfl (by kernel_rfl) (fun _ => ⟨trivial, ⟨⟨1, rfl⟩, ⟨2, rfl⟩, ⟨8, rfl⟩, trivial⟩, trivial⟩) ?_ ?_
                                      · intro v27794
                                        refine VA.more ⟨0, [], [], [(g27775, 24, [v27773, .int .i64 t19]), (g27759, 26, [.int .i64 x27756.f0, .bool x27756.f1, .int .i64 x27756.f2, .int .i64 x27756.f3, .int .i64 x27756.f4, .bool x27756.f5]), (g2, 24, [(.slice (some ad27757) r18.length n27758), .int .i64 t19])], [(v27794, 26, 6, ((([] : List S25) ++ ((([] : List S25) ++ ((r18.take a2.toNat).drop 0)) ++ ((r18.take r18.length).drop ((wrap64 (a2 + 1)).toNat)))) ++ ([x27756] : List S25)).map enc25)]⟩ ⟨trivial, ⟨⟨0, rfl⟩, ⟨1, rfl⟩, ⟨2, rfl⟩, trivial⟩, trivial⟩ ?_
                                        refine VA.va (i := 9) (listed' := LB 12 1023) rfl (op_build (vals := [(1, .int .i64 t19), (0, v27794)]) (vcs := [(1, [.int .i64 t19]), (0, [v27794])]) (cells := [v27794, .int .i64 t19]) SI24 rfl (.cons ⟨rfl, (.c rfl)⟩ (.cons ⟨rfl, (.r 0 rfl)⟩ .nil)) (by kernel_rfl) (ltn rfl)) rfl (by kernel_rfl) (by kernel_rfl) (by kernel_rfl) (by kernel_rfl) ⟨trivial, ⟨⟨1, rfl⟩, ⟨2, rfl⟩, ⟨8, rfl⟩, trivial⟩, ⟨⟨1, rfl⟩, trivial⟩⟩ (fun _ _ _ h => h) ?_
                                        refine VA.oneG (i := 10) (listed' := LB 12 2047) (by kernel_rfl) rfl (o_alloc (us := [.slice none 0 0, .int .i64 0]) Z24 rfl (ltn rfl)) rfl (by kernel_rfl) (fun _ => ⟨trivial, ⟨⟨2, rfl⟩, ⟨3, rfl⟩, ⟨9, rfl⟩, trivial⟩, ⟨⟨1, rfl⟩, trivial⟩⟩) ?_
                                        intro g27796
                                        refine VA.one1 (i := 11) (listed' := LB 12 4095) (by kernel_rfl) rfl (o_store 0 2 rfl rfl rfl TI24 (.agg (.r 1 rfl (.c rfl .nil))) rfl (len rfl)) rfl (by kernel_rfl) ⟨trivial, ⟨⟨2, rfl⟩, ⟨3, rfl⟩, ⟨9, rfl⟩, trivial⟩, ⟨⟨1, rfl⟩, trivial⟩⟩ ?_
                                        refine VA.done (by kernel_rfl) ?_
                                        exact VN.meet2 g27796 v27794 [0, 1, 2, 3, 4, 5, 6, 7, 8, 9] [1, 2, 3] trivial ⟨rfl, ⟨rfl, rfl, rfl, rfl, rfl, rfl, rfl, rfl, rfl, rfl, rfl, rfl, rfl, rfl, trivial⟩, ⟨⟨0, rfl⟩, ⟨1, rfl⟩, ⟨2, rfl⟩, ⟨3, rfl⟩, trivial⟩, rfl, by decide, rfl, by decide⟩
                                      refine VAll.consG (listed' := LB 12 1279) rfl (o_alloc (us := [.slice none 0 0, .int .i64 0]) Z24 rfl (ltn rfl)) rfl (by kernel_rfl) (fun _ => ⟨trivial, ⟨⟨2, rfl⟩, ⟨3, rfl⟩, ⟨9, rfl⟩, trivial⟩, trivial⟩) ?_ VAll.nil
                                      intro g27796
                                      refine VA.oneG (i := 8) (listed' := LB 12 1535) (by kernel_rfl) rfl (o_append 1 appm Try.underlying22 EI26 rfl rfl rfl (.inr ⟨0, _, rfl⟩) (bndm c27793) (ltn rfl)) rfl (by kernel_rfl) (fun _ => ⟨trivial, ⟨⟨2, rfl⟩, ⟨3, rfl⟩, ⟨9, rfl⟩, trivial⟩, trivial⟩) ?_
                                      intro v27794
                                      refine VA.more ⟨0, [], [], [(g27775, 24, [v27773, .int .i64 t19]), (g27759, 26, [.int .i64 x27756.f0, .bool x27756.f1, .int .i64 x27756.f2, .int .i64 x27756.f3, .int .i64 x27756.f4, .bool x27756.f5]), (g2, 24, [(.slice (some ad27757) r18.length n27758), .int .i64 t19])], [(v27794, 26, 6, ((([] : List S25) ++ ((([] : List S25) ++ ((r18.take a2.toNat).drop 0)) ++ ((r18.take r18.length).drop ((wrap64 (a2 + 1)).toNat)))) ++ ([x27756] : List S25)).map enc25)]⟩ ⟨trivial, ⟨⟨0, rfl⟩, ⟨1, rfl⟩, ⟨2, rfl⟩, trivial⟩, trivial⟩ ?_
                                      refine VA.va (i := 9) (listed' := LB 12 2047) rfl (op_build (vals := [(1, .int .i64 t19), (0, v27794)]) (vcs := [(1, [.int .i64 t19]), (0, [v27794])]) (cells := [v27794, .int .i64 t19]) SI24 rfl (.cons ⟨rfl, (.c rfl)⟩ (.cons ⟨rfl, (.r 0 rfl)⟩ .nil)) (by kernel_rfl) (ltn rfl)) rfl (by kernel_rfl) (by kernel_rfl) (by kernel_rfl) (by kernel_rfl) ⟨trivial, ⟨⟨2, rfl⟩, ⟨3, rfl⟩, ⟨9, rfl⟩, trivial⟩, ⟨⟨1, rfl⟩, trivial⟩⟩ (fun _ _ _ h => h) ?_
                                      refine VA.one1 (i := 11) (listed' := LB 12 4095) (by kernel_rfl) rfl (o_store 0 2 rfl rfl rfl TI24 (.agg (.r 1 rfl (.c rfl .nil))) rfl (len rfl)) rfl (by kernel_rfl) ⟨trivial, ⟨⟨2, rfl⟩, ⟨3, rfl⟩, ⟨9, rfl⟩, trivial⟩, ⟨⟨1, rfl⟩, trivial⟩⟩ ?_
                                      refine VA.done (by kernel_rfl) ?_
                                      exact VN.meet2 g27796 v27794 [0, 1, 2, 3, 4, 5, 6, 7, 8, 9] [1, 2, 3] trivial ⟨rfl, ⟨rfl, rfl, rfl, rfl, rfl, rfl, rfl, rfl, rfl, rfl, rfl, rfl, rfl, rfl, trivial⟩, ⟨⟨0, rfl⟩, ⟨1, rfl⟩, ⟨2, rfl⟩, ⟨3, rfl⟩, trivial⟩, rfl, by decide, rfl, by decide⟩
                                    refine VAll.consG (listed' := LB 12 1151) rfl (o_alloc (us := [.slice none 0 0, .int .i64 0]) Z24 rfl (ltn rfl)) rfl (by kernel_rfl) (fun _ => ⟨trivial, ⟨⟨2, rfl⟩, ⟨3, rfl⟩, ⟨9, rfl⟩, trivial⟩, trivial⟩) ?_ VAll.nil
                                    intro g27796
                                    refine VA.oneG (i := 7) (listed' := LB 12 1279) (by kernel_rfl) rfl (o_buildSlice (vals := [(0, .agg #[.int .i64 x27756.f0, .bool x27756.f1, .int .i64 x27756.f2, .int .i64 x27756.f3, .int .i64 x27756.f4, .bool x27756.f5])]) (cells := #[.int .i64 x27756.f0, .bool x27756.f1, .int .i64 x27756.f2, .int .i64 x27756.f3, .int .i64 x27756.f4, .bool x27756.f5]) (es := List.map enc25 ([x27756] : List S25)) Try.underlying22 TI26 Z26 rfl (by decide) (by decide) (by kernel_rfl) (by kernel_rfl) rfl (flat_map enc25_ok _) (ltn rfl)) rfl (by kernel_rfl) (fun _ => ⟨trivial, ⟨⟨2, rfl⟩, ⟨3, rfl⟩, ⟨9, rfl⟩, trivial⟩, trivial⟩) ?_
                                    intro v27792
                                    refine VA.oneG (i := 8) (listed' := LB 12 1535) (by kernel_rfl) rfl (o_append 1 appm Try.underlying22 EI26 rfl rfl rfl (.inr ⟨0, _, rfl⟩) (bndm c27793) (ltn rfl)) rfl (by kernel_rfl) (fun _ => ⟨trivial, ⟨⟨2, rfl⟩, ⟨3, rfl⟩, ⟨9, rfl⟩, trivial⟩, trivial⟩) ?_
                                    intro v27794
                                    refine VA.more ⟨0, [], [], [(g27775, 24, [v27773, .int .i64 t19]), (g27759, 26, [.int .i64 x27756.f0, .bool x27756.f1, .int .i64 x27756.f2, .int .i64 x27756.f3, .int .i64 x27756.f4, .bool x27756.f5]), (g2, 24, [(.slice (some ad27757) r18.length n27758), .int .i64 t19])], [(v27794, 26, 6, ((([] : List S25) ++ ((([] : List S25) ++ ((r18.take a2.toNat).drop 0)) ++ ((r18.take r18.length).drop ((wrap64 (a2 + 1)).toNat)))) ++ ([x27756] : List S25)).map enc25)]⟩ ⟨trivial, ⟨⟨0, rfl⟩, ⟨1, rfl⟩, ⟨2, rfl⟩, trivial⟩, trivial⟩ ?_
                                    refine VA.va (i := 9) (listed' := LB 12 2047) rfl (op_build (vals := [(1, .int .i64 t19), (0, v27794)]) (vcs := [(1, [.int .i64 t19]), (0, [v27794])]) (cells := [v27794, .int .i64 t19]) SI24 rfl (.cons ⟨rfl, (.c rfl)⟩ (.cons ⟨rfl, (.r 0 rfl)⟩ .nil)) (by kernel_rfl) (ltn rfl)) rfl (by kernel_rfl) (by kernel_rfl) (by kernel_rfl) (by kernel_rfl) ⟨trivial, ⟨⟨2, rfl⟩, ⟨3, rfl⟩, ⟨9, rfl⟩, trivial⟩, ⟨⟨1, rfl⟩, trivial⟩⟩ (fun _ _ _ h => h) ?_
                                    refine VA.one1 (i := 11) (listed' := LB 12 4095) (by kernel_rfl) rfl (o_store 0 2 rfl rfl rfl TI24 (.agg (.r 1 rfl (.c rfl .nil))) rfl (len rfl)) rfl (by kernel_rfl) ⟨trivial, ⟨⟨2, rfl⟩, ⟨3, rfl⟩, ⟨9, rfl⟩, trivial⟩, ⟨⟨1, rfl⟩, trivial⟩⟩ ?_
                                    refine VA.done (by kernel_rfl) ?_
                                    exact VN.meet2 g27796 v27794 [0, 1, 2, 3, 4, 5, 6, 7, 8, 9] [1, 2, 3] trivial ⟨rfl, ⟨rfl, rfl, rfl, rfl, rfl, rfl, rfl, rfl, rfl, rfl, rfl, rfl, rfl, rfl, trivial⟩, ⟨⟨0, rfl⟩, ⟨1, rfl⟩, ⟨2, rfl⟩, ⟨3, rfl⟩, trivial⟩, rfl, by decide, rfl, by decide⟩
                                  refine VAll.consG (listed' := LB 12 223) rfl (o_buildSlice (vals := [(0, .agg #[.int .i64 x27756.f0, .bool x27756.f1, .int .i64 x27756.f2, .int .i64 x27756.f3, .int .i64 x27756.f4, .bool x27756.f5])]) (cells := #[.int .i64 x27756.f0, .bool x27756.f1, .int .i64 x27756.f2, .int .i64 x27756.f3, .int .i64 x27756.f4, .bool x27756.f5]) (es := List.map enc25 ([x27756] : List S25)) Try.underlying22 TI26 Z26 rfl (by decide) (by decide) (by kernel_rfl) (by kernel_rfl) rfl (flat_map enc25_ok _) (ltn rfl)) rfl (by kernel_rfl) (fun _ => ⟨trivial, ⟨⟨1, rfl⟩, ⟨2, rfl⟩, ⟨8, rfl⟩, trivial⟩, trivial⟩) ?_ ?_
                                  · intro v27792
                                    refine VA.all [5, 10] (by kernel_rfl) (by simp) ?_
                                    refine VAll.consG (listed' := LB 12 255) rfl (o_append 1 appm Try.underlying22 EI26 rfl rfl rfl (.inr ⟨3, _, rfl⟩) (bndm c27788) (ltn rfl)) rfl (by kernel_rfl) (fun _ => ⟨trivial, ⟨⟨1, rfl⟩, ⟨2, rfl⟩, ⟨8, rfl⟩, trivial⟩, trivial⟩) ?_ ?_
                                    · intro v27789
                                      refine VA.all [8, 10] (by kernel_rfl) (by simp) ?_
                                      refine VAll.consG (listed' := LB 12 511) rfl (o_append 1 appm Try.underlying22 EI26 rfl rfl rfl (.inr ⟨0, _, rfl⟩) (bndm c27793) (ltn rfl)) rfl (by kernel_rfl) (fun _ => ⟨trivial, ⟨⟨1, rfl⟩, ⟨2, rfl⟩, ⟨8, rfl⟩, trivial⟩, trivial⟩) ?_ ?_
                                      · intro v27794
                                        refine VA.more ⟨0, [], [], [(g27775, 24, [v27773, .int .i64 t19]), (g27759, 26, [.int .i64 x27756.f0, .bool x27756.f1, .int .i64 x27756.f2, .int .i64 x27756.f3, .int .i64 x27756.f4, .bool x27756.f5]), (g2, 24, [(.slice (some ad27757) r18.length n27758), .int .i64 t19])], [(v27794, 26, 6, ((([] : List S25) ++ ((([] : List S25) ++ ((r18.take a2.toNat).drop 0)) ++ ((r18.take r18.length).drop ((wrap64 (a2 + 1)).toNat)))) ++ ([x27756] : List S25)).map enc25)]⟩ ⟨trivial, ⟨⟨0, rfl⟩, ⟨1, rfl⟩, ⟨2, rfl⟩, trivial⟩, trivial⟩ ?_
                                        refine VA.va (i := 9) (listed' := LB 12 1023) rfl (op_build (vals := [(1, .int .i64 t19), (0, v27794)]) (vcs := [(1, [.int .i64 t19]), (0, [v27794])]) (cells := [v27794, .int .i64 t19]) SI24 rfl (.cons ⟨rfl, (.c rfl)⟩ (.cons ⟨rfl, (.r 0 rfl)⟩ .nil)) (by kernel_rfl) (ltn rfl)) rfl (by kernel_rfl) (by kernel_rfl) (by kernel_rfl) (by kernel_rfl) ⟨trivial, ⟨⟨1, rfl⟩, ⟨2, rfl⟩, ⟨8, rfl⟩, trivial⟩, ⟨⟨1, rfl⟩, trivial⟩⟩ (fun _ _ _ h => h) ?_
                                        refine VA.oneG (i := 10) (listed' := LB 12 2047) (by kernel_rfl) rfl (o_alloc (us := [.slice none 0 0, .int .i64 0]) Z24 rfl (ltn rfl)) rfl (by kernel_rfl) (fun _ => ⟨trivial, ⟨⟨2, rfl⟩, ⟨3, rfl⟩, ⟨9, rfl⟩, trivial⟩, ⟨⟨1, rfl⟩, trivial⟩⟩) ?_
                                        intro g27796
                                        refine VA.one1 (i := 11) (listed' := LB 12 4095) (by kernel_rfl) rfl (o_store 0 2 rfl rfl rfl TI24 (.agg (.r 1 rfl (.c rfl .nil))) rfl (len rfl)) rfl (by kernel_rfl) ⟨trivial, ⟨⟨2, rfl⟩, ⟨3, rfl⟩, ⟨9, rfl⟩, trivial⟩, ⟨⟨1, rfl⟩, trivial⟩⟩ ?_
                                        refine VA.done (by kernel_rfl) ?_
                                        exact VN.meet2 g27796 v27794 [0, 1, 2, 3, 4, 5, 6, 7, 8, 9] [1, 2, 3] trivial ⟨rfl, ⟨rfl, rfl, rfl, rfl, rfl, rfl, rfl, rfl, rfl, rfl, rfl, rfl, rfl, rfl, trivial⟩, ⟨⟨0, rfl⟩, ⟨1, rfl⟩, ⟨2, rfl⟩, ⟨3, rfl⟩, trivial⟩, rfl, by decide, rfl, by decide⟩
                                      refine VAll.consG (listed' := LB 12 1279) rfl (o_alloc (us := [.slice none 0 0, .int .i64 0]) Z24 rfl (ltn rfl)) rfl (by kernel_rfl) (fun _ => ⟨trivial, ⟨⟨2, rfl⟩, ⟨3, rfl⟩, ⟨9, rfl⟩, trivial⟩, trivial⟩) ?_ VAll.nil
                                      intro g27796
                                      refine VA.oneG (i := 8) (listed' := LB 12 1535) (by kernel_rfl) rfl (o_append 1 appm Try.underlying22 EI26 rfl rfl rfl (.inr ⟨0, _, rfl⟩) (bndm c27793) (ltn rfl)) rfl (by kernel_rfl) (fun _ => ⟨trivial, ⟨⟨2, rfl⟩, ⟨3, rfl⟩, ⟨9, rfl⟩, trivial⟩, trivial⟩) ?_
                                      intro v27794
                                      refine VA.more ⟨0, [], [], [(g27775, 24, [v27773, .int .i64 t19]), (g27759, 26, [.int .i64 x27756.f0, .bool x27756.f1, .int .i64 x27756.f2, .int .i64 x27756.f3, .int .i64 x27756.f4, .bool x27756.f5]), (g2, 24, [(.slice (some ad27757) r18.length n27758), .int .i64 t19])], [(v27794, 26, 6, ((([] : List S25) ++ ((([] : List S25) ++ ((r18.take a2.toNat).drop 0)) ++ ((r18.take r18.length).drop ((wrap64 (a2 + 1)).toNat)))) ++ ([x27756] : List S25)).map enc25)]⟩ ⟨trivial, ⟨⟨0, rfl⟩, ⟨1, rfl⟩, ⟨2, rfl⟩, trivial⟩, trivial⟩ ?_
                                      refine VA.va (i := 9) (listed' := LB 12 2047) rfl (op_build (vals := [(1, .int .i64 t19), (0, v27794)]) (vcs := [(1, [.int .i64 t19]), (0, [v27794])]) (cells := [v27794, .int .i64 t19]) SI24 rfl (.cons ⟨rfl, (.c rfl)⟩ (.cons ⟨rfl, (.r 0 rfl)⟩ .nil)) (by kernel_rfl) (ltn rfl)) rfl (by kernel_rfl) (by kernel_rfl) (by kernel_rfl) (by kernel_rfl) ⟨trivial, ⟨⟨2, rfl⟩, ⟨3, rfl⟩, ⟨9, rfl⟩, trivial⟩, ⟨⟨1, rfl⟩, trivial⟩⟩ (fun _ _ _ h => h) ?_
                                      refine VA.one1 (i := 11) (listed' := LB 12 4095) (by kernel_rfl) rfl (o_store 0 2 rfl rfl rfl TI24 (.agg (.r 1 rfl (.c rfl .nil))) rfl (len rfl)) rfl (by kernel_rfl) ⟨trivial, ⟨⟨2, rfl⟩, ⟨3, rfl⟩, ⟨9, rfl⟩, trivial⟩, ⟨⟨1, rfl⟩, trivial⟩⟩ ?_
                                      refine VA.done (by kernel_rfl) ?_
                                      exact VN.meet2 g27796 v27794 [0, 1, 2, 3, 4, 5, 6, 7, 8, 9] [1, 2, 3] trivial ⟨rfl, ⟨rfl, rfl, rfl, rfl, rfl, rfl, rfl, rfl, rfl, rfl, rfl, rfl, rfl, rfl, trivial⟩, ⟨⟨0, rfl⟩, ⟨1, rfl⟩, ⟨2, rfl⟩, ⟨3, rfl⟩, trivial⟩, rfl, by decide, rfl, by decide⟩
                                    refine VAll.consG (listed' := LB 12 1247) rfl (o_alloc (us := [.slice none 0 0, .int .i64 0]) Z24 rfl (ltn rfl)) rfl (by kernel_rfl) (fun _ => ⟨trivial, ⟨⟨2, rfl⟩, ⟨3, rfl⟩, ⟨9, rfl⟩, trivial⟩, trivial⟩) ?_ VAll.nil
                                    intro g27796
                                    refine VA.oneG (i := 5) (listed' := LB 12 1279) (by kernel_rfl) rfl (o_append 1 appm Try.underlying22 EI26 rfl rfl rfl (.inr ⟨3, _, rfl⟩) (bndm c27788) (ltn rfl)) rfl (by kernel_rfl) (fun _ => ⟨trivial, ⟨⟨2, rfl⟩, ⟨3, rfl⟩, ⟨9, rfl⟩, trivial⟩, trivial⟩) ?_
                                    intro v27789
                                    refine VA.oneG (i := 8) (listed' := LB 12 1535) (by kernel_rfl) rfl (o_append 1 appm Try.underlying22 EI26 rfl rfl rfl (.inr ⟨0, _, rfl⟩) (bndm c27793) (ltn rfl)) rfl (by kernel_rfl) (fun _ => ⟨trivial, ⟨⟨2, rfl⟩, ⟨3, rfl⟩, ⟨9, rfl⟩, trivial⟩, trivial⟩) ?_
                                    intro v27794
                                    refine VA.more ⟨0, [], [], [(g27775, 24, [v27773, .int .i64 t19]), (g27759, 26, [.int .i64 x27756.f0, .bool x27756.f1, .int .i64 x27756.f2, .int .i64 x27756.f3, .int .i64 x27756.f4, .bool x27756.f5]), (g2, 24, [(.slice (some ad27757) r18.length n27758), .int .i64 t19])], [(v27794, 26, 6, ((([] : List S25) ++ ((([] : List S25) ++ ((r18.take a2.toNat).drop 0)) ++ ((r18.take r18.length).drop ((wrap64 (a2 + 1)).toNat)))) ++ ([x27756] : List S25)).map enc25)]⟩ ⟨trivial, ⟨⟨0, rfl⟩, ⟨1, rfl⟩, ⟨2, rfl⟩, trivial⟩, trivial⟩ ?_
                                    refine VA.va (i := 9) (listed' := LB 12 2047) rfl (op_build (vals := [(1, .int .i64 t19), (0, v27794)]) (vcs := [(1, [.int .i64 t19]), (0, [v27794])]) (cells := [v27794, .int .i64 t19]) SI24 rfl (.cons ⟨rfl, (.c rfl)⟩ (.cons ⟨rfl, (.r 0 rfl)⟩ .nil)) (by kernel_rfl) (ltn rfl)) rfl (by kernel_rfl) (by kernel_rfl) (by kernel_rfl) (by kernel_rfl) ⟨trivial, ⟨⟨2, rfl⟩, ⟨3, rfl⟩, ⟨9, rfl⟩, trivial⟩, ⟨⟨1, rfl⟩, trivial⟩⟩ (fun _ _ _ h => h) ?_
                                    refine VA.one1 (i := 11) (listed' := LB 12 4095) (by kernel_rfl) rfl (o_store 0 2 rfl rfl rfl TI24 (.agg (.r 1 rfl (.c rfl .nil))) rfl (len rfl)) rfl (by kernel_rfl) ⟨trivial, ⟨⟨2, rfl⟩, ⟨3, rfl⟩, ⟨9, rfl⟩, trivial⟩, ⟨⟨1, rfl⟩, trivial⟩⟩ ?_
                                    refine VA.done (by kernel_rfl) ?_
                                    exact VN.meet2 g27796 v27794 [0, 1, 2, 3, 4, 5, 6, 7, 8, 9] [1, 2, 3] trivial ⟨rfl, ⟨rfl, rfl, rfl, rfl, rfl, rfl, rfl, rfl, rfl, rfl, rfl, rfl, rfl, rfl, trivial⟩, ⟨⟨0, rfl⟩, ⟨1, rfl⟩, ⟨2, rfl⟩, ⟨3, rfl⟩, trivial⟩, rfl, by decide, rfl, by decide⟩
                                  refine VAll.consG (listed' := LB 12 1119) rfl (o_alloc (us := [.slice none 0 0, .int .i64 0]) Z24 rfl (ltn rfl)) rfl (by kernel_rfl) (fun _ => ⟨trivial, ⟨⟨2, rfl⟩, ⟨3, rfl⟩, ⟨9, rfl⟩, trivial⟩, trivial⟩) ?_ VAll.nil
                                  intro g27796
                                  refine VA.all [5, 7] (by kernel_rfl) (by simp) ?_
                                  refine VAll.consG (listed' := LB 12 1151) rfl (o_append 0 appm Try.underlying22 EI26 rfl rfl rfl (.inr ⟨2, _, rfl⟩) (bndm c27788) (ltn rfl)) rfl (by kernel_rfl) (fun _ => ⟨trivial, ⟨⟨2, rfl⟩, ⟨3, rfl⟩, ⟨9, rfl⟩, trivial⟩, trivial⟩) ?_ ?_
                                  · intro v27789
                                    refine VA.oneG (i := 7) (listed' := LB 12 1279) (by kernel_rfl) rfl (o_buildSlice (vals := [(0, .agg #[.int .i64 x27756.f0, .bool x27756.f1, .int .i64 x27756.f2, .int .i64 x27756.f3, .int .i64 x27756.f4, .bool x27756.f5])]) (cells := #[.int .i64 x27756.f0, .bool x27756.f1, .int .i64 x27756.f2, .int .i64 x27756.f3, .int .i64 x27756.f4, .bool x27756.f5]) (es := List.map enc25 ([x27756] : List S25)) Try.underlying22 TI26 Z26 rfl (by decide) (by decide) (by kernel_rfl) (by kernel_rfl) rfl (flat_map enc25_ok _) (ltn rfl)) rfl (by kernel_rfl) (fun _ => ⟨trivial, ⟨⟨2, rfl⟩, ⟨3, rfl⟩, ⟨9, rfl⟩, trivial⟩, trivial⟩) ?_
                                    intro v27792
                                    refine VA.oneG (i := 8) (listed' := LB 12 1535) (by kernel_rfl) rfl (o_append 1 appm Try.underlying22 EI26 rfl rfl rfl (.inr ⟨0, _, rfl⟩) (bndm c27793) (ltn rfl)) rfl (by kernel_rfl) (fun _ => ⟨trivial, ⟨⟨2, rfl⟩, ⟨3, rfl⟩, ⟨9, rfl⟩, trivial⟩, trivial⟩) ?_
                                    intro v27794
                                    refine VA.more ⟨0, [], [], [(g27775, 24, [v27773, .int .i64 t19]), (g27759, 26, [.int .i64 x27756.f0, .bool x27756.f1, .int .i64 x27756.f2, .int .i64 x27756.f3, .int .i64 x27756.f4, .bool x27756.f5]), (g2, 24, [(.slice (some ad27757) r18.length n27758), .int .i64 t19])], [(v27794, 26, 6, ((([] : List S25) ++ ((([] : List S25) ++ ((r18.take a2.toNat).drop 0)) ++ ((r18.take r18.length).drop ((wrap64 (a2 + 1)).toNat)))) ++ ([x27756] : List S25)).map enc25)]⟩ ⟨trivial, ⟨⟨0, rfl⟩, ⟨1, rfl⟩, ⟨2, rfl⟩, trivial⟩, trivial⟩ ?_
                                    refine VA.va (i := 9) (listed' := LB 12 2047) rfl (op_build (vals := [(1, .int .i64 t19), (0, v27794)]) (vcs := [(1, [.int .i64 t19]), (0, [v27794])]) (cells := [v27794, .int .i64 t19]) SI24 rfl (.cons ⟨rfl, (.c rfl)⟩ (.cons ⟨rfl, (.r 0 rfl)⟩ .nil)) (by kernel_rfl) (ltn rfl)) rfl (by kernel_rfl) (by kernel_rfl) (by kernel_rfl) (by kernel_rfl) ⟨trivial, ⟨⟨2, rfl⟩, ⟨3, rfl⟩, ⟨9, rfl⟩, trivial⟩, ⟨⟨1, rfl⟩, trivial⟩⟩ (fun _ _ _ h => h) ?_
                                    refine VA.one1 (i := 11) (listed' := LB 12 4095) (by kernel_rfl) rfl (o_store 0 2 rfl rfl rfl TI24 (.agg (.r 1 rfl (.c rfl .nil))) rfl (len rfl)) rfl (by kernel_rfl) ⟨trivial, ⟨⟨2, rfl⟩, ⟨3, rfl⟩, ⟨9, rfl⟩, trivial⟩, ⟨⟨1, rfl⟩, trivial⟩⟩ ?_
                                    refine VA.done (by kernel_rfl) ?_
                                    exact VN.meet2 g27796 v27794 [0, 1, 2, 3, 4, 5, 6, 7, 8, 9] [1, 2, 3] trivial ⟨rfl, ⟨rfl, rfl, rfl, rfl, rfl, rfl, rfl, rfl, rfl, rfl, rfl, rfl, rfl, rfl, trivial⟩, ⟨⟨0, rfl⟩, ⟨1, rfl⟩, ⟨2, rfl⟩, ⟨3, rfl⟩, trivial⟩, rfl, by decide, rfl, by decide⟩
                                  refine VAll.consG (listed' := LB 12 1247) rfl (o_buildSlice (vals := [(0, .agg #[.int .i64 x27756.f0, .bool x27756.f1, .int .i64 x27756.f2, .int .i64 x27756.f3, .int .i64 x27756.f4, .bool x27756.f5])]) (cells := #[.int .i64 x27756.f0, .bool x27756.f1, .int .i64 x27756.f2, .int .i64 x27756.f3, .int .i64 x27756.f4, .bool x27756.f5]) (es := List.map enc25 ([x27756] : List S25)) Try.underlying22 TI26 Z26 rfl (by decide) (by decide) (by kernel_rfl) (by kernel_rfl) rfl (flat_map enc25_ok _) (ltn rfl)) rfl (by kernel_rfl) (fun _ => ⟨trivial, ⟨⟨2, rfl⟩, ⟨3, rfl⟩, ⟨9, rfl⟩, trivial⟩, trivial⟩) ?_ VAll.nil
                                  intro v27792
                                  refine VA.oneG (i := 5) (listed' := LB 12 1279) (by kernel_rfl) rfl (o_append 1 appm Try.underlying22 EI26 rfl rfl rfl (.inr ⟨3, _, rfl⟩) (bndm c27788) (ltn rfl)) rfl (by kernel_rfl) (fun _ => ⟨trivial, ⟨⟨2, rfl⟩, ⟨3, rfl⟩, ⟨9, rfl⟩, trivial⟩, trivial⟩) ?_
                                  intro v27789
                                  refine VA.oneG (i := 8) (listed' := LB 12 1535) (by kernel_rfl) rfl (o_append 1 appm Try.underlying22 EI26 rfl rfl rfl (.inr ⟨0, _, rfl⟩) (bndm c27793) (ltn rfl)) rfl (by kernel_rfl) (fun _ => ⟨trivial, ⟨⟨2, rfl⟩, ⟨3, rfl⟩, ⟨9, rfl⟩, trivial⟩, trivial⟩) ?_
                                  intro v27794
                                  refine VA.more ⟨0, [], [], [(g27775, 24, [v27773, .int .i64 t19]), (g27759, 26, [.int .i64 x27756.f0, .bool x27756.f1, .int .i64 x27756.f2, .int .i64 x27756.f3, .int .i64 x27756.f4, .bool x27756.f5]), (g2, 24, [(.slice (some ad27757) r18.length n27758), .int .i64 t19])], [(v27794, 26, 6, ((([] : List S25) ++ ((([] : List S25) ++ ((r18.take a2.toNat).drop 0)) ++ ((r18.take r18.length).drop ((wrap64 (a2 + 1)).toNat)))) ++ ([x27756] : List S25)).map enc25)]⟩ ⟨trivial, ⟨⟨0, rfl⟩, ⟨1, rfl⟩, ⟨2, rfl⟩, trivial⟩, trivial⟩ ?_
                                  refine VA.va (i := 9) (listed' := LB 12 2047) rfl (op_build (vals := [(1, .int .i64 t19), (0, v27794)]) (vcs := [(1, [.int .i64 t19]), (0, [v27794])]) (cells := [v27794, .int .i64 t19]) SI24 rfl (.cons ⟨rfl, (.c rfl)⟩ (.cons ⟨rfl, (.r 0 rfl)⟩ .nil)) (by kernel_rfl) (ltn rfl)) rfl (by kernel_rfl) (by kernel_rfl) (by kernel_rfl) (by kernel_rfl) ⟨trivial, ⟨⟨2, rfl⟩, ⟨3, rfl⟩, ⟨9, rfl⟩, trivial⟩, ⟨⟨1, rfl⟩, trivial⟩⟩ (fun _ _ _ h => h) ?_
                                  refine VA.one1 (i := 11) (listed' := LB 12 4095) (by kernel_rfl) rfl (o_store 0 2 rfl rfl rfl TI24 (.agg (.r 1 rfl (.c rfl .nil))) rfl (len rfl)) rfl (by kernel_rfl) ⟨trivial, ⟨⟨2, rfl⟩, ⟨3, rfl⟩, ⟨9, rfl⟩, trivial⟩, ⟨⟨1, rfl⟩, trivial⟩⟩ ?_
                                  refine VA.done (by kernel_rfl) ?_
                                  exact VN.meet2 g27796 v27794 [0, 1, 2, 3, 4, 5, 6, 7, 8, 9] [1, 2, 3] trivial ⟨rfl, ⟨rfl, rfl, rfl, rfl, rfl, rfl, rfl, rfl, rfl, rfl, rfl, rfl, rfl, rfl, trivial⟩, ⟨⟨0, rfl⟩, ⟨1, rfl⟩, ⟨2, rfl⟩, ⟨3, rfl⟩, trivial⟩, rfl, by decide, rfl, by decide⟩
                                refine VAll.consG (listed' := LB 12 219) rfl (o_buildSlice (vals := [(0, .agg #[.int .i64 x27756.f0, .bool x27756.f1, .int .i64 x27756.f2, .int .i64 x27756.f3, .int .i64 x27756.f4, .bool x27756.f5])]) (cells := #[.int .i64 x27756.f0, .bool x27756.f1, .int .i64 x27756.f2, .int .i64 x27756.f3, .int .i64 x27756.f4, .bool x27756.f5]) (es := List.map enc25 ([x27756] : List S25)) Try.underlying22 TI26 Z26 rfl (by decide) (by decide) (by kernel_rfl) (by kernel_rfl) rfl (flat_map enc25_ok _) (ltn rfl)) rfl (by kernel_rfl) (fun _ => ⟨trivial, ⟨⟨1, rfl⟩, ⟨2, rfl⟩, ⟨8, rfl⟩, trivial⟩, trivial⟩) ?_ ?_
                                · intro v27792
                                  refine VA.all [2, 10] (by kernel_rfl) (by simp) ?_
                                  refine VAll.consG (listed' := LB 12 223) rfl (o_buildSlice (vals := []) (cells := #[]) (es := List.map enc25 ([] : List S25)) Try.underlying22 TI26 Z26 rfl (by decide) (by decide) (by kernel_rfl) (by kernel_rfl) rfl (flat_map enc25_ok _) (ltn rfl)) rfl (by kernel_rfl) (fun _ => ⟨trivial, ⟨⟨1, rfl⟩, ⟨2, rfl⟩, ⟨8, rfl⟩, trivial⟩, trivial⟩) ?_ ?_
                                  · intro v27787
                                    refine VA.all [5, 10] (by kernel_rfl) (by simp) ?_
                                    refine VAll.consG (listed' := LB 12 255) rfl (o_append 0 appm Try.underlying22 EI26 rfl rfl rfl (.inr ⟨3, _, rfl⟩) (bndm c27788) (ltn rfl)) rfl (by kernel_rfl) (fun _ => ⟨trivial, ⟨⟨1, rfl⟩, ⟨2, rfl⟩, ⟨8, rfl⟩, trivial⟩, trivial⟩) ?_ ?_
                                    · intro v27789
                                      refine VA.all [8, 10] (by kernel_rfl) (by simp) ?_
                                      refine VAll.consG (listed' := LB 12 511) rfl (o_append 0 appm Try.underlying22 EI26 rfl rfl rfl (.inr ⟨1, _, rfl⟩) (bndm c27793) (ltn rfl)) rfl (by kernel_rfl) (fun _ => ⟨trivial, ⟨⟨1, rfl⟩, ⟨2, rfl⟩, ⟨8, rfl⟩, trivial⟩, trivial⟩) ?_ ?_
                                      · intro v27794
                                        refine VA.more ⟨0, [], [], [(g27775, 24, [v27773, .int .i64 t19]), (g27759, 26, [.int .i64 x27756.f0, .bool x27756.f1, .int .i64 x27756.f2, .int .i64 x27756.f3, .int .i64 x27756.f4, .bool x27756.f5]), (g2, 24, [(.slice (some ad27757) r18.length n27758), .int .i64 t19])], [(v27794, 26, 6, ((([] : List S25) ++ ((([] : List S25) ++ ((r18.take a2.toNat).drop 0)) ++ ((r18.take r18.length).drop ((wrap64 (a2 + 1)).toNat)))) ++ ([x27756] : List S25)).map enc25)]⟩ ⟨trivial, ⟨⟨0, rfl⟩, ⟨1, rfl⟩, ⟨2, rfl⟩, trivial⟩, trivial⟩ ?_
                                        refine VA.va (i := 9) (listed' := LB 12 1023) rfl (op_build (vals := [(1, .int .i64 t19), (0, v27794)]) (vcs := [(1, [.int .i64 t19]), (0, [v27794])]) (cells := [v27794, .int .i64 t19]) SI24 rfl (.cons ⟨rfl, (.c rfl)⟩ (.cons ⟨rfl, (.r 0 rfl)⟩ .nil)) (by kernel_rfl) (ltn rfl)) rfl (by kernel_rfl) (by kernel_rfl) (by kernel_rfl) (by kernel_rfl) ⟨trivial, ⟨⟨1, rfl⟩, ⟨2, rfl⟩, ⟨8, rfl⟩, trivial⟩, ⟨⟨0, rfl⟩, trivial⟩⟩ (fun _ _ _ h => h) ?_
                                        refine VA.oneG (i := 10) (listed' := LB 12 2047) (by kernel_rfl) rfl (o_alloc (us := [.slice none 0 0, .int .i64 0]) Z24 rfl (ltn rfl)) rfl (by kernel_rfl) (fun _ => ⟨trivial, ⟨⟨2, rfl⟩, ⟨3, rfl⟩, ⟨9, rfl⟩, trivial⟩, ⟨⟨0, rfl⟩, trivial⟩⟩) ?_
                                        intro g27796
                                        refine VA.one1 (i := 11) (listed' := LB 12 4095) (by kernel_rfl) rfl (o_store 0 2 rfl rfl rfl TI24 (.agg (.r 0 rfl (.c rfl .nil))) rfl (len rfl)) rfl (by kernel_rfl) ⟨trivial, ⟨⟨2, rfl⟩, ⟨3, rfl⟩, ⟨9, rfl⟩, trivial⟩, ⟨⟨0, rfl⟩, trivial⟩⟩ ?_
                                        refine VA.done (by kernel_rfl) ?_
                                        exact VN.meet2 g27796 v27794 [0, 1, 2, 3, 4, 5, 6, 7, 8, 9] [0, 2, 3] trivial ⟨rfl, ⟨rfl, rfl, rfl, rfl, rfl, rfl, rfl, rfl, rfl, rfl, rfl, rfl, rfl, rfl, trivial⟩, ⟨⟨0, rfl⟩, ⟨1, rfl⟩, ⟨2, rfl⟩, ⟨3, rfl⟩, trivial⟩, rfl, by decide, rfl, by decide⟩
                                      refine VAll.consG (listed' := LB 12 1279) rfl (o_alloc (us := [.slice none 0 0, .int .i64 0]) Z24 rfl (ltn rfl)) rfl (by kernel_rfl) (fun _ => ⟨trivial, ⟨⟨2, rfl⟩, ⟨3, rfl⟩, ⟨9, rfl⟩, trivial⟩, trivial⟩) ?_ VAll.nil
                                      intro g27796
                                      refine VA.oneG (i := 8) (listed' := LB 12 1535) (by kernel_rfl) rfl (o_append 0 appm Try.underlying22 EI26 rfl rfl rfl (.inr ⟨1, _, rfl⟩) (bndm c27793) (ltn rfl)) rfl (by kernel_rfl) (fun _ => ⟨trivial, ⟨⟨2, rfl⟩, ⟨3, rfl⟩, ⟨9, rfl⟩, trivial⟩, trivial⟩) ?_
                                      intro v27794
                                      refine VA.more ⟨0, [], [], [(g27775, 24, [v27773, .int .i64 t19]), (g27759, 26, [.int .i64 x27756.f0, .bool x27756.f1, .int .i64 x27756.f2, .int .i64 x27756.f3, .int .i64 x27756.f4, .bool x27756.f5]), (g2, 24, [(.slice (some ad27757) r18.length n27758), .int .i64 t19])], [(v27794, 26, 6, ((([] : List S25) ++ ((([] : List S25) ++ ((r18.take a2.toNat).drop 0)) ++ ((r18.take r18.length).drop ((wrap64 (a2 + 1)).toNat)))) ++ ([x27756] : List S25)).map enc25)]⟩ ⟨trivial, ⟨⟨0, rfl⟩, ⟨1, rfl⟩, ⟨2, rfl⟩, trivial⟩, trivial⟩ ?_
                                      refine VA.va (i := 9) (listed' := LB 12 2047) rfl (op_build (vals := [(1, .int .i64 t19), (0, v27794)]) (vcs := [(1, [.int .i64 t19]), (0, [v27794])]) (cells := [v27794, .int .i64 t19]) SI24 rfl (.cons ⟨rfl, (.c rfl)⟩ (.cons ⟨rfl, (.r 0 rfl)⟩ .nil)) (by kernel_rfl) (ltn rfl)) rfl (by kernel_rfl) (by kernel_rfl) (by kernel_rfl) (by kernel_rfl) ⟨trivial, ⟨⟨2, rfl⟩, ⟨3, rfl⟩, ⟨9, rfl⟩, trivial⟩, ⟨⟨0, rfl⟩, trivial⟩⟩ (fun _ _ _ h => h) ?_
                                      refine VA.one1 (i := 11) (listed' := LB 12 4095) (by kernel_rfl) rfl (o_store 0 2 rfl rfl rfl TI24 (.agg (.r 0 rfl (.c rfl .nil))) rfl (len rfl)) rfl (by kernel_rfl) ⟨trivial, ⟨⟨2, rfl⟩, ⟨3, rfl⟩, ⟨9, rfl⟩, trivial⟩, ⟨⟨0, rfl⟩, trivial⟩⟩ ?_
                                      refine VA.done (by kernel_rfl) ?_
                                      exact VN.meet2 g27796 v27794 [0, 1, 2, 3, 4, 5, 6, 7, 8, 9] [0, 2, 3] trivial ⟨rfl, ⟨rfl, rfl, rfl, rfl, rfl, rfl, rfl, rfl, rfl, rfl, rfl, rfl, rfl, rfl, trivial⟩, ⟨⟨0, rfl⟩, ⟨1, rfl⟩, ⟨2, rfl⟩, ⟨3, rfl⟩, trivial⟩, rfl, by decide, rfl, by decide⟩
                                    refine VAll.consG (listed' := LB 12 1247) rfl (o_alloc (us := [.slice none 0 0, .int .i64 0]) Z24 rfl (ltn rfl)) rfl (by kernel_rfl) (fun _ => ⟨trivial, ⟨⟨2, rfl⟩, ⟨3, rfl⟩, ⟨9, rfl⟩, trivial⟩, trivial⟩) ?_ VAll.nil
                                    intro g27796
                                    refine VA.oneG (i := 5) (listed' := LB 12 1279) (by kernel_rfl) rfl (o_append 0 appm Try.underlying22 EI26 rfl rfl rfl (.inr ⟨3, _, rfl⟩) (bndm c27788) (ltn rfl)) rfl (by kernel_rfl) (fun _ => ⟨trivial, ⟨⟨2, rfl⟩, ⟨3, rfl⟩, ⟨9, rfl⟩, trivial⟩, trivial⟩) ?_
                                    intro v27789
                                    refine VA.oneG (i := 8) (listed' := LB 12 1535) (by kernel_rfl) rfl (o_append 0 appm Try.underlying22 EI26 rfl rfl rfl (.inr ⟨1, _, rfl⟩) (bndm c27793) (ltn rfl)) rfl (by kernel_rfl) (fun _ => ⟨trivial, ⟨⟨2, rfl⟩, ⟨3, rfl⟩, ⟨9, rfl⟩, trivial⟩, trivial⟩) ?_
                                    intro v27794
                                    refine VA.more ⟨0, [], [], [(g27775, 24, [v27773, .int .i64 t19]), (g27759, 26, [.int .i64 x27756.f0, .bool x27756.f1, .int .i64 x27756.f2, .int .i64 x27756.f3, .int .i64 x27756.f4, .bool x27756.f5]), (g2, 24, [(.slice (some ad27757) r18.length n27758), .int .i64 t19])], [(v27794, 26, 6, ((([] : List S25) ++ ((([] : List S25) ++ ((r18.take a2.toNat).drop 0)) ++ ((r18.take r18.length).drop ((wrap64 (a2 + 1)).toNat)))) ++ ([x27756] : List S25)).map enc25)]⟩ ⟨trivial, ⟨⟨0, rfl⟩, ⟨1, rfl⟩, ⟨2, rfl⟩, trivial⟩, trivial⟩ ?_
                                    refine VA.va (i := 9) (listed' := LB 12 2047) rfl (op_build (vals := [(1, .int .i64 t19), (0, v27794)]) (vcs := [(1, [.int .i64 t19]), (0, [v27794])]) (cells := [v27794, .int .i64 t19]) SI24 rfl (.cons ⟨rfl, (.c rfl)⟩ (.cons ⟨rfl, (.r 0 rfl)⟩ .nil)) (by kernel_rfl) (ltn rfl)) rfl (by kernel_rfl) (by kernel_rfl) (by kernel_rfl) (by kernel_rfl) ⟨trivial, ⟨⟨2, rfl⟩, ⟨3, rfl⟩, ⟨9, rfl⟩, trivial⟩, ⟨⟨0, rfl⟩, trivial⟩⟩ (fun _ _ _ h => h) ?_
                                    refine VA.one1 (i := 11) (listed' := LB 12 4095) (by kernel_rfl) rfl (o_store 0 2 rfl rfl rfl TI24 (.agg (.r 0 rfl (.c rfl .nil))) rfl (len rfl)) rfl (by kernel_rfl) ⟨trivial, ⟨⟨2, rfl⟩, ⟨3, rfl⟩, ⟨9, rfl⟩, trivial⟩, ⟨⟨0, rfl⟩, trivial⟩⟩ ?_
                                    refine VA.done (by kernel_rfl) ?_
                                    exact VN.meet2 g27796 v27794 [0, 1, 2, 3, 4, 5, 6, 7, 8, 9] [0, 2, 3] trivial ⟨rfl, ⟨rfl, rfl, rfl, rfl, rfl, rfl, rfl, rfl, rfl, rfl, rfl, rfl, rfl, rfl, trivial⟩, ⟨⟨0, rfl⟩, ⟨1, rfl⟩, ⟨2, rfl⟩, ⟨3, rfl⟩, trivial⟩, rfl, by decide, rfl, by decide⟩
                                  refine VAll.consG (listed' := LB 12 1243) rfl (o_alloc (us := [.slice none 0 0, .int .i64 0]) Z24 rfl (ltn rfl)) rfl (by kernel_rfl) (fun _ => ⟨trivial, ⟨⟨2, rfl⟩, ⟨3, rfl⟩, ⟨9, rfl⟩, trivial⟩, trivial⟩) ?_ VAll.nil
                                  intro g27796
                                  refine VA.oneG (i := 2) (listed' := LB 12 1247) (by kernel_rfl) rfl (o_buildSlice (vals := []) (cells := #[]) (es := List.map enc25 ([] : List S25)) Try.underlying22 TI26 Z26 rfl (by decide) (by decide) (by kernel_rfl) (by kernel_rfl) rfl (flat_map enc25_ok _) (ltn rfl)) rfl (by kernel_rfl) (fun _ => ⟨trivial, ⟨⟨2, rfl⟩, ⟨3, rfl⟩, ⟨9, rfl⟩, trivial⟩, trivial⟩) ?_
                                  intro v27787
                                  refine VA.oneG (i := 5) (listed' := LB 12 1279) (by kernel_rfl) rfl (o_append 0 appm Try.underlying22 EI26 rfl rfl rfl (.inr ⟨3, _, rfl⟩) (bndm c27788) (ltn rfl)) rfl (by kernel_rfl) (fun _ => ⟨trivial, ⟨⟨2, rfl⟩, ⟨3, rfl⟩, ⟨9, rfl⟩, trivial⟩, trivial⟩) ?_
                                  intro v27789
                                  refine VA.oneG (i := 8) (listed' := LB 12 1535) (by kernel_rfl) rfl (o_append 0 appm Try.underlying22 EI26 rfl rfl rfl (.inr ⟨1, _, rfl⟩) (bndm c27793) (ltn rfl)) rfl (by kernel_rfl) (fun _ => ⟨trivial, ⟨⟨2, rfl⟩, ⟨3, rfl⟩, ⟨9, rfl⟩, trivial⟩, trivial⟩) ?_
                                  intro v27794
                                  refine VA.more ⟨0, [], [], [(g27775, 24, [v27773, .int .i64 t19]), (g27759, 26, [.int .i64 x27756.f0, .bool x27756.f1, .int .i64 x27756.f2, .int .i64 x27756.f3, .int .i64 x27756.f4, .bool x27756.f5]), (g2, 24, [(.slice (some ad27757) r18.length n27758), .int .i64 t19])], [(v27794, 26, 6, ((([] : List S25) ++ ((([] : List S25) ++ ((r18.take a2.toNat).drop 0)) ++ ((r18.take r18.length).drop ((wrap64 (a2 + 1)).toNat)))) ++ ([x27756] : List S25)).map enc25)]⟩ ⟨trivial, ⟨⟨0, rfl⟩, ⟨1, rfl⟩, ⟨2, rfl⟩, trivial⟩, trivial⟩ ?_
                                  refine VA.va (i := 9) (listed' := LB 12 2047) rfl (op_build (vals := [(1, .int .i64 t19), (0, v27794)]) (vcs := [(1, [.int .i64 t19]), (0, [v27794])]) (cells := [v27794, .int .i64 t19]) SI24 rfl (.cons ⟨rfl, (.c rfl)⟩ (.cons ⟨rfl, (.r 0 rfl)⟩ .nil)) (by kernel_rfl) (ltn rfl)) rfl (by kernel_rfl) (by kernel_rfl) (by kernel_rfl) (by kernel_rfl) ⟨trivial, ⟨⟨2, rfl⟩, ⟨3, rfl⟩, ⟨9, rfl⟩, trivial⟩, ⟨⟨0, rfl⟩, trivial⟩⟩ (fun _ _ _ h => h) ?_
                                  refine VA.one1 (i := 11) (listed' := LB 12 4095) (by kernel_rfl) rfl (o_store 0 2 rfl rfl rfl TI24 (.agg (.r 0 rfl (.c rfl .nil))) rfl (len rfl)) rfl (by kernel_rfl) ⟨trivial, ⟨⟨2, rfl⟩, ⟨3, rfl⟩, ⟨9, rfl⟩, trivial⟩, ⟨⟨0, rfl⟩, trivial⟩⟩ ?_
                                  refine VA.done (by kernel_rfl) ?_
                                  exact VN.meet2 g27796 v27794 [0, 1, 2, 3, 4, 5, 6, 7, 8, 9] [0, 2, 3] trivial ⟨rfl, ⟨rfl, rfl, rfl, rfl, rfl, rfl, rfl, rfl, rfl, rfl, rfl, rfl, rfl, rfl, trivial⟩, ⟨⟨0, rfl⟩, ⟨1, rfl⟩, ⟨2, rfl⟩, ⟨3, rfl⟩, trivial⟩, rfl, by decide, rfl, by decide⟩
                                refine VAll.consG (listed' := LB 12 1115) rfl (o_alloc (us := [.slice none 0 0, .int .i64 0]) Z24 rfl (ltn rfl)) rfl (by kernel_rfl) (fun _ => ⟨trivial, ⟨⟨2, rfl⟩, ⟨3, rfl⟩, ⟨9, rfl⟩, trivial⟩, trivial⟩) ?_ VAll.nil
                                intro g27796
                                refine VA.all [2, 7] (by kernel_rfl) (by simp) ?_
                                refine VAll.consG (listed' := LB 12 1119) rfl (o_buildSlice (vals := []) (cells := #[]) (es := List.map enc25 ([] : List S25)) Try.underlying22 TI26 Z26 rfl (by decide) (by decide) (by kernel_rfl) (by kernel_rfl) rfl (flat_map enc25_ok _) (ltn rfl)) rfl (by kernel_rfl) (fun _ => ⟨trivial, ⟨⟨2, rfl⟩, ⟨3, rfl⟩, ⟨9, rfl⟩, trivial⟩, trivial⟩) ?_ ?_
                                · intro v27787
                                  refine VA.all [5, 7] (by kernel_rfl) (by simp) ?_
                                  refine VAll.consG (listed' := LB 12 1151) rfl (o_append 0 appm Try.underlying22 EI26 rfl rfl rfl (.inr ⟨2, _, rfl⟩) (bndm c27788) (ltn rfl)) rfl (by kernel_rfl) (fun _ => ⟨trivial, ⟨⟨2, rfl⟩, ⟨3, rfl⟩, ⟨9, rfl⟩, trivial⟩, trivial⟩) ?_ ?_
                                  · intro v27789
                                    refine VA.oneG (i := 7) (listed' := LB 12 1279) (by kernel_rfl) rfl (o_buildSlice (vals := [(0, .agg #[.int .i64 x27756.f0, .bool x27756.f1, .int .i64 x27756.f2, .int .i64 x27756.f3, .int .i64 x27756.f4, .bool x27756.f5])]) (cells := #[.int .i64 x27756.f0, .bool x27756.f1, .int .i64 x27756.f2, .int .i64 x27756.f3, .int .i64 x27756.f4, .bool x27756.f5]) (es := List.map enc25 ([x27756] : List S25)) Try.underlying22 TI26 Z26 rfl (by decide) (by decide) (by kernel_rfl) (by kernel_rfl) rfl (flat_map enc25_ok _) (ltn rfl)) rfl (by kernel_rfl) (fun _ => ⟨trivial, ⟨⟨2, rfl⟩, ⟨3, rfl⟩, ⟨9, rfl⟩, trivial⟩, trivial⟩) ?_
                                    intro v27792
                                    refine VA.oneG (i := 8) (listed' := LB 12 1535) (by kernel_rfl) rfl (o_append 1 appm Try.underlying22 EI26 rfl rfl rfl (.inr ⟨0, _, rfl⟩) (bndm c27793) (ltn rfl)) rfl (by kernel_rfl) (fun _ => ⟨trivial, ⟨⟨2, rfl⟩, ⟨3, rfl⟩, ⟨9, rfl⟩, trivial⟩, trivial⟩) ?_
                                    intro v27794
                                    refine VA.more ⟨0, [], [], [(g27775, 24, [v27773, .int .i64 t19]), (g27759, 26, [.int .i64 x27756.f0, .bool x27756.f1, .int .i64 x27756.f2, .int .i64 x27756.f3, .int .i64 x27756.f4, .bool x27756.f5]), (g2, 24, [(.slice (some ad27757) r18.length n27758), .int .i64 t19])], [(v27794, 26, 6, ((([] : List S25) ++ ((([] : List S25) ++ ((r18.take a2.toNat).drop 0)) ++ ((r18.take r18.length).drop ((wrap64 (a2 + 1)).toNat)))) ++ ([x27756] : List S25)).map enc25)]⟩ ⟨trivial, ⟨⟨0, rfl⟩, ⟨1, rfl⟩, ⟨2, rfl⟩, trivial⟩, trivial⟩ ?_
                                    refine VA.va (i := 9) (listed' := LB 12 2047) rfl (op_build (vals := [(1, .int .i64 t19), (0, v27794)]) (vcs := [(1, [.int .i64 t19]), (0, [v27794])]) (cells := [v27794, .int .i64 t19]) SI24 rfl (.cons ⟨rfl, (.c rfl)⟩ (.cons ⟨rfl, (.r 0 rfl)⟩ .nil)) (by kernel_rfl) (ltn rfl)) rfl (by kernel_rfl) (by kernel_rfl) (by kernel_rfl) (by kernel_rfl) ⟨trivial, ⟨⟨2, rfl⟩, ⟨3, rfl⟩, ⟨9, rfl⟩, trivial⟩, ⟨⟨1, rfl⟩, trivial⟩⟩ (fun _ _ _ h => h) ?_
                                    refine VA.one1 (i := 11) (listed' := LB 12 4095) (by kernel_rfl) rfl (o_store 0 2 rfl rfl rfl TI24 (.agg (.r 1 rfl (.c rfl .nil))) rfl (len rfl)) rfl (by kernel_rfl) ⟨trivial, ⟨⟨2, rfl⟩, ⟨3, rfl⟩, ⟨9, rfl⟩, trivial⟩, ⟨⟨1, rfl⟩, trivial⟩⟩ ?_
                                    refine VA.done (by kernel_rfl) ?_
                                    exact VN.meet2 g27796 v27794 [0, 1, 2, 3, 4, 5, 6, 7, 8, 9] [1, 2, 3] trivial ⟨rfl, ⟨rfl, rfl, rfl, rfl, rfl, rfl, rfl, rfl, rfl, rfl, rfl, rfl, rfl, rfl, trivial⟩, ⟨⟨0, rfl⟩, ⟨1, rfl⟩, ⟨2, rfl⟩, ⟨3, rfl⟩, trivial⟩, rfl, by decide, rfl, by decide⟩
                                  refine VAll.consG (listed' := LB 12 1247) rfl (o_buildSlice (vals := [(0, .agg #[.int .i64 x27756.f0, .bool x27756.f1, .int .i64 x27756.f2, .int .i64 x27756.f3, .int .i64 x27756.f4, .bool x27756.f5])]) (cells := #[.int .i64 x27756.f0, .bool x27756.f1, .int .i64 x27756.f2, .int .i64 x27756.f3, .int .i64 x27756.f4, .bool x27756.f5]) (es := List.map enc25 ([x27756] : List S25)) Try.underlying22 TI26 Z26 rfl (by decide) (by decide) (by kernel_rfl) (by kernel_rfl) rfl (flat_map enc25_ok _) (ltn rfl)) rfl (by kernel_rfl) (fun _ => ⟨trivial, ⟨⟨2, rfl⟩, ⟨3, rfl⟩, ⟨9, rfl⟩, trivial⟩, trivial⟩) ?_ VAll.nil
                                  intro v27792
                                  refine VA.oneG (i := 5) (listed' := LB 12 1279) (by kernel_rfl) rfl (o_append 1 appm Try.underlying22 EI26 rfl rfl rfl (.inr ⟨3, _, rfl⟩) (bndm c27788) (ltn rfl)) rfl (by kernel_rfl) (fun _ => ⟨trivial, ⟨⟨2, rfl⟩, ⟨3, rfl⟩, ⟨9, rfl⟩, trivial⟩, trivial⟩) ?_
                                  intro v27789
                                  refine VA.oneG (i := 8) (listed' := LB 12 1535) (by kernel_rfl) rfl (o_append 1 appm Try.underlying22 EI26 rfl rfl rfl (.inr ⟨0, _, rfl⟩) (bndm c27793) (ltn rfl)) rfl (by kernel_rfl) (fun _ => ⟨trivial, ⟨⟨2, rfl⟩, ⟨3, rfl⟩, ⟨9, rfl⟩, trivial⟩, trivial⟩) ?_
                                  intro v27794
                                  refine VA.more ⟨0, [], [], [(g27775, 24, [v27773, .int .i64 t19]), (g27759, 26, [.int .i64 x27756.f0, .bool x27756.f1, .int .i64 x27756.f2, .int .i64 x27756.f3, .int .i64 x27756.f4, .bool x27756.f5]), (g2, 24, [(.slice (some ad27757) r18.length n27758), .int .i64 t19])], [(v27794, 26, 6, ((([] : List S25) ++ ((([] : List S25) ++ ((r18.take a2.toNat).drop 0)) ++ ((r18.take r18.length).drop ((wrap64 (a2 + 1)).toNat)))) ++ ([x27756] : List S25)).map enc25)]⟩ ⟨trivial, ⟨⟨0, rfl⟩, ⟨1, rfl⟩, ⟨2, rfl⟩, trivial⟩, trivial⟩ ?_
                                  refine VA.va (i := 9) (listed' := LB 12 2047) rfl (op_build (vals := [(1, .int .i64 t19), (0, v27794)]) (vcs := [(1, [.int .i64 t19]), (0, [v27794])]) (cells := [v27794, .int .i64 t19]) SI24 rfl (.cons ⟨rfl, (.c rfl)⟩ (.cons ⟨rfl, (.r 0 rfl)⟩ .nil)) (by kernel_rfl) (ltn rfl)) rfl (by kernel_rfl) (by kernel_rfl) (by kernel_rfl) (by kernel_rfl) ⟨trivial, ⟨⟨2, rfl⟩, ⟨3, rfl⟩, ⟨9, rfl⟩, trivial⟩, ⟨⟨1, rfl⟩, trivial⟩⟩ (fun _ _ _ h => h) ?_
                                  refine VA.one1 (i := 11) (listed' := LB 12 4095) (by kernel_rfl) rfl (o_store 0 2 rfl rfl rfl TI24 (.agg (.r 1 rfl (.c rfl .nil))) rfl (len rfl)) rfl (by kernel_rfl) ⟨trivial, ⟨⟨2, rfl⟩, ⟨3, rfl⟩, ⟨9, rfl⟩, trivial⟩, ⟨⟨1, rfl⟩, trivial⟩⟩ ?_
                                  refine VA.done (by kernel_rfl) ?_
                                  exact VN.meet2 g27796 v27794 [0, 1, 2, 3, 4, 5, 6, 7, 8, 9] [1, 2, 3] trivial ⟨rfl, ⟨rfl, rfl, rfl, rfl, rfl, rfl, rfl, rfl, rfl, rfl, rfl, rfl, rfl, rfl, trivial⟩, ⟨⟨0, rfl⟩, ⟨1, rfl⟩, ⟨2, rfl⟩, ⟨3, rfl⟩, trivial⟩, rfl, by decide, rfl, by decide⟩
                                refine VAll.consG (listed' := LB 12 1243) rfl (o_buildSlice (vals := [(0, .agg #[.int .i64 x27756.f0, .bool x27756.f1, .int .i64 x27756.f2, .int .i64 x27756.f3, .int .i64 x27756.f4, .bool x27756.f5])]) (cells := #[.int .i64 x27756.f0, .bool x27756.f1, .int .i64 x27756.f2, .int .i64 x27756.f3, .int .i64 x27756.f4, .bool x27756.f5]) (es := List.map enc25 ([x27756] : List S25)) Try.underlying22 TI26 Z26 rfl (by decide) (by decide) (by kernel_rfl) (by kernel_rfl) rfl (flat_map enc25_ok _) (ltn rfl)) rfl (by kernel_rfl) (fun _ => ⟨trivial, ⟨⟨2, rfl⟩, ⟨3, rfl⟩, ⟨9, rfl⟩, trivial⟩, trivial⟩) ?_ VAll.nil
                                intro v27792
                                refine VA.oneG (i := 2) (listed' := LB 12 1247) (by kernel_rfl) rfl (o_buildSlice (vals := []) (cells := #[]) (es := List.map enc25 ([] : List S25)) Try.underlying22 TI26 Z26 rfl (by decide) (by decide) (by kernel_rfl) (by kernel_rfl) rfl (flat_map enc25_ok _) (ltn rfl)) rfl (by kernel_rfl) (fun _ => ⟨trivial, ⟨⟨2, rfl⟩, ⟨3, rfl⟩, ⟨9, rfl⟩, trivial⟩, trivial⟩) ?_
                                intro v27787
                                refine VA.oneG (i := 5) (listed' := LB 12 1279) (by kernel_rfl) rfl (o_append 0 appm Try.underlying22 EI26 rfl rfl rfl (.inr ⟨3, _, rfl⟩) (bndm c27788) (ltn rfl)) rfl (by kernel_rfl) (fun _ => ⟨trivial, ⟨⟨2, rfl⟩, ⟨3, rfl⟩, ⟨9, rfl⟩, trivial⟩, trivial⟩) ?_
                                intro v27789
                                refine VA.oneG (i := 8) (listed' := LB 12 1535) (by kernel_rfl) rfl (o_append 0 appm Try.underlying22 EI26 rfl rfl rfl (.inr ⟨1, _, rfl⟩) (bndm c27793) (ltn rfl)) rfl (by kernel_rfl) (fun _ => ⟨trivial, ⟨⟨2, rfl⟩, ⟨3, rfl⟩, ⟨9, rfl⟩, trivial⟩, trivial⟩) ?_
                                intro v27794
                                refine VA.more ⟨0, [], [], [(g27775, 24, [v27773, .int .i64 t19]), (g27759, 26, [.int .i64 x27756.f0, .bool x27756.f1, .int .i64 x27756.f2, .int .i64 x27756.f3, .int .i64 x27756.f4, .bool x27756.f5]), (g2, 24, [(.slice (some ad27757) r18.length n27758), .int .i64 t19])], [(v27794, 26, 6, ((([] : List S25) ++ ((([] : List S25) ++ ((r18.take a2.toNat).drop 0)) ++ ((r18.take r18.length).drop ((wrap64 (a2 + 1)).toNat)))) ++ ([x27756] : List S25)).map enc25)]⟩ ⟨trivial, ⟨⟨0, rfl⟩, ⟨1, rfl⟩, ⟨2, rfl⟩, trivial⟩, trivial⟩ ?_
                                refine VA.va (i := 9) (listed' := LB 12 2047) rfl (op_build (vals := [(1, .int .i64 t19), (0, v27794)]) (vcs := [(1, [.int .i64 t19]), (0, [v27794])]) (cells := [v27794, .int .i64 t19]) SI24 rfl (.cons ⟨rfl, (.c rfl)⟩ (.cons ⟨rfl, (.r 0 rfl)⟩ .nil)) (by kernel_rfl) (ltn rfl)) rfl (by kernel_rfl) (by kernel_rfl) (by kernel_rfl) (by kernel_rfl) ⟨trivial, ⟨⟨2, rfl⟩, ⟨3, rfl⟩, ⟨9, rfl⟩, trivial⟩, ⟨⟨0, rfl⟩, trivial⟩⟩ (fun _ _ _ h => h) ?_
                                refine VA.one1 (i := 11) (listed' := LB 12 4095) (by kernel_rfl) rfl (o_store 0 2 rfl rfl rfl TI24 (.agg (.r 0 rfl (.c rfl .nil))) rfl (len rfl)) rfl (by kernel_rfl) ⟨trivial, ⟨⟨2, rfl⟩, ⟨3, rfl⟩, ⟨9, rfl⟩, trivial⟩, ⟨⟨0, rfl⟩, trivial⟩⟩ ?_
                                refine VA.done (by kernel_rfl) ?_
                                exact VN.meet2 g27796 v27794 [0, 1, 2, 3, 4, 5, 6, 7, 8, 9] [0, 2, 3] trivial ⟨rfl, ⟨rfl, rfl, rfl, rfl, rfl, rfl, rfl, rfl, rfl, rfl, rfl, rfl, rfl, rfl, trivial⟩, ⟨⟨0, rfl⟩, ⟨1, rfl⟩, ⟨2, rfl⟩, ⟨3, rfl⟩, trivial⟩, rfl, by decide, rfl, by decide⟩
                              intro g27796 v27794 _
                              refine VC.seq ?_
                              refine VC.seq ?_
                              refine VC.region ?_
                              refine VL.va (op_move rfl (ltn rfl)) rfl ?_
                              refine VL.letter ((t553 != 0)) fun b27833 hb27833 => ?_
                              refine VL.va (op_cmp rfl rfl (congrArg some hb27833) (ltn rfl)) rfl ?_
                              refine VL.va (op_move rfl (ltn rfl)) rfl ?_
                              by_cases c27834 : t553 = 0
                              · rw [if_pos c27834] at h
                                obtain rfl : b27833 = false := hb27833.symm.trans (bne_eq_false_iff_eq.2 c27834)
                                refine VL.va (op_load 7 6 rfl rfl TI26 rfl (fun h => absurd h (by decide)) (ltn rfl)) rfl ?_
                                refine VL.va (op_load 3 6 rfl rfl TI26 rfl (fun h => absurd h (by decide)) (ltn rfl)) rfl ?_
                                refine VL.letter ((!(((t547 == x27756.f0) && ((t548 == x27756.f1) && ((t549 == x27756.f2) && ((t550 == x27756.f3) && ((t551 == x27756.f4) && (t552 == x27756.f5))))))))) fun b27835 hb27835 => ?_
                                refine VL.va (op_neS rfl rfl EG26 (EQ26 t547 t548 t549 t550 t551 t552 x27756.f0 x27756.f1 x27756.f2 x27756.f3 x27756.f4 x27756.f5) hb27835 (ltn rfl)) rfl ?_
                                refine VL.va (op_pick rfl rfl (ltn rfl)) rfl ?_
                                refine VL.va (op_move rfl (ltn rfl)) rfl ?_
                                by_cases c27836 : (((t547 == x27756.f0) && ((t548 == x27756.f1) && ((t549 == x27756.f2) && ((t550 == x27756.f3) && ((t551 == x27756.f4) && (t552 == x27756.f5))))))) = true
                                · rw [if_pos c27836] at h
                                  obtain rfl : b27835 = false := hb27835.symm.trans (not_t c27836)
                                  refine VL.va (op_load 8 2 rfl rfl TI24 rfl (fun h => absurd h (by decide)) (ltn rfl)) rfl ?_
                                  refine VL.va (op_load 2 2 rfl rfl TI24 rfl (fun h => absurd h (by decide)) (ltn rfl)) rfl ?_
                                  replace h := Option.bind_eq_some_iff.1 h
                                  obtain ⟨t27837, hA27838, h⟩ := h
                                  refine VL.sC (o_call_b0 FO15 (tarrylaw15_like.ok k r545 t546 ((([] : List S25) ++ ((r18.take a2.toNat).drop 0)) ++ ((r18.take r18.length).drop ((wrap64 (a2 + 1)).toNat))) t19 v556 v27773 t27837 hA27838) rfl rfl (ltn rfl) (All_of (.cons (.inl (List.mem_of_getElem? (i := 2) rfl)) (.cons (.inr (.inl ⟨_, List.mem_of_getElem? (i := 2) rfl, rfl⟩)) .nil))) (by rintro _ _ _ ⟨rfl, rfl, rfl⟩; rfl)) rfl ?_
                                  rintro _ _ _ ⟨rfl, rfl, rfl⟩
                                  by_cases c27839 : t27837 = true
                                  · rw [if_pos c27839] at h
                                    obtain rfl := c27839
                                    refine VL.va (op_not rfl rfl (ltn rfl)) rfl ?_
                                    refine VL.va (op_pick rfl rfl (ltn rfl)) rfl ?_
                                    refine VL.va (op_move rfl (ltn rfl)) rfl ?_
                                    refine VL.va (op_move rfl (ltn rfl)) rfl ?_
                                    refine VL.letter ((t692 != 0)) fun b27840 hb27840 => ?_
                                    refine VL.va (op_cmp rfl rfl (congrArg some hb27840) (ltn rfl)) rfl ?_
                                    refine VL.va (op_pick rfl rfl (ltn rfl)) rfl ?_
                                    refine VL.va (op_move rfl (ltn rfl)) rfl ?_
                                    by_cases c27841 : t692 = 0
                                    · rw [if_pos c27841] at h
                                      obtain rfl : b27840 = false := hb27840.symm.trans (bne_eq_false_iff_eq.2 c27841)
                                      refine VL.va (op_load 5 2 rfl rfl TI24 rfl (fun h => absurd h (by decide)) (ltn rfl)) rfl ?_
                                      refine VL.va (op_load 0 2 rfl rfl TI24 rfl (fun h => absurd h (by decide)) (ltn rfl)) rfl ?_
                                      replace h := Option.bind_eq_some_iff.1 h
                                      obtain ⟨t27842, hA27843, h⟩ := h
                                      refine VL.sC (o_call_b0 FO15 (tarrylaw15_like.ok k r690 t691 ((([] : List S25) ++ ((([] : List S25) ++ ((r18.take a2.toNat).drop 0)) ++ ((r18.take r18.length).drop ((wrap64 (a2 + 1)).toNat)))) ++ ([x27756] : List S25)) t19 v695 v27794 t27842 hA27843) rfl rfl (ltn rfl) (All_of (.cons (.inl (List.mem_of_getElem? (i := 0) rfl)) (.cons (.inr (.inl ⟨_, List.mem_of_getElem? (i := 0) rfl, rfl⟩)) .nil))) (by rintro _ _ _ ⟨rfl, rfl, rfl⟩; rfl)) rfl ?_
                                      rintro _ _ _ ⟨rfl, rfl, rfl⟩
                                      by_cases c27844 : t27842 = true
                                      · rw [if_pos c27844] at h
                                        obtain rfl := c27844
                                        refine VL.va (op_not rfl rfl (ltn rfl)) rfl ?_
                                        refine VL.va (op_pick rfl rfl (ltn rfl)) rfl ?_
                                        refine VL.done ?_
                                        refine VN.then ?_
                                        refine VC.cond_f rfl ?_
                                        refine VC.skip ?_
                                        refine VN.then ?_
                                        refine VC.seq ?_
                                        refine VC.seq ?_
                                        refine VC.region ?_
                                        refine VL.va (op_fieldAddr FI24_0 rfl (add_at _ _ _) (ltn rfl)) rfl ?_
                                        refine VL.va (op_load 9 1 rfl rfl TI22 rfl (by decide) (ltn rfl)) rfl ?_
                                        refine VL.va (op_len (m := r18.length) 3 lenm Try.underlying22 rfl rfl (ltn rfl)) rfl ?_
                                        refine VL.letter (((r18.length : Int) == 64)) fun b27857 hb27857 => ?_
                                        refine VL.va (op_cmp rfl rfl (congrArg some hb27857) (ltn rfl)) rfl ?_
                                        refine VL.done ?_
                                        refine VN.then ?_
                                        by_cases c27858 : (r18.length : Int) = 64
                                        · rw [if_pos c27858] at h
                                          obtain rfl : b27857 = true := hb27857.symm.trans (beq_iff_eq.2 c27858)
                                          refine VC.cond_t rfl ?_
                                          refine VC.seq ?_
                                          refine VC.region ?_
                                          refine VL.va (op_move rfl (ltn rfl)) rfl ?_
                                          refine VL.letter ((t630 == 7)) fun b27864 hb27864 => ?_
                                          refine VL.va (op_cmp rfl rfl (congrArg some hb27864) (ltn rfl)) rfl ?_
                                          refine VL.va (op_move rfl (ltn rfl)) rfl ?_
                                          by_cases c27865 : t630 = 7
                                          · rw [if_pos c27865] at h
                                            obtain rfl : b27864 = true := hb27864.symm.trans (beq_iff_eq.2 c27865)
                                            refine VL.va (op_load 6 2 rfl rfl TI24 rfl (fun h => absurd h (by decide)) (ltn rfl)) rfl ?_
                                            refine VL.va (op_load 4 2 rfl rfl TI24 rfl (fun h => absurd h (by decide)) (ltn rfl)) rfl ?_
                                            refine VL.nilFact' 6 ?_
                                            replace h := Option.bind_eq_some_iff.1 h
                                            obtain ⟨t27867, hA27868, h⟩ := h
                                            refine VL.sC (o_call0 FO15 (tarrylaw15_like.ok k r628 t629 [] 0 v633 (.slice none 0 0) t27867 hA27868) rfl rfl (ltn rfl) (All_of (.cons (List.mem_of_getElem? (i := 2) rfl) (.cons (List.mem_of_getElem? (i := 0) rfl) .nil)))) rfl ?_
                                            rintro _ _ _ ⟨rfl, rfl, rfl⟩
                                            refine VL.va (op_pick rfl rfl (ltn rfl)) rfl ?_
                                            refine VL.va (op_assign rfl (ltn rfl)) rfl ?_
                                            refine VL.done ?_
                                            refine VN.then ?_
                                            refine VC.ret ?_
                                            refine VR.then ?_
                                            obtain rfl := Option.some.inj h
                                            exact VR.fn (rs := [.tmp 6]) [] [] [] rfl (.tmp rfl .nil) ⟨rfl, rfl, rfl⟩ trivial rfl (by decide)
                                          · rw [if_neg c27865] at h
                                            obtain rfl : b27864 = false := hb27864.symm.trans (beq_eq_false_iff_ne.2 c27865)
                                            refine VL.un rfl rfl (ltn rfl) ?_
                                            refine VL.un rfl rfl (ltn rfl) ?_
                                            refine VL.un rfl rfl (ltn rfl) ?_
                                            refine VL.va (op_pick rfl rfl (ltn rfl)) rfl ?_
                                            refine VL.va (op_assign rfl (ltn rfl)) rfl ?_
                                            refine VL.done ?_
                                            refine VN.then ?_
                                            refine VC.ret ?_
                                            refine VR.then ?_
                                            cases h
                                        · rw [if_neg c27858] at h
                                          obtain rfl : b27857 = false := hb27857.symm.trans (beq_eq_false_iff_ne.2 c27858)
                                          refine VC.cond_f rfl ?_
                                          refine VC.skip ?_
                                          refine VN.then ?_
                                          refine VC.seq ?_
                                          refine VC.region ?_
                                          refine VL.va (op_move rfl (ltn rfl)) rfl ?_
                                          refine VL.letter ((t630 == 0)) fun b27873 hb27873 => ?_
                                          refine VL.va (op_cmp rfl rfl (congrArg some hb27873) (ltn rfl)) rfl ?_
                                          refine VL.va (op_move rfl (ltn rfl)) rfl ?_
                                          by_cases c27874 : t630 = 0
                                          · rw [if_pos c27874] at h
                                            obtain rfl : b27873 = true := hb27873.symm.trans (beq_iff_eq.2 c27874)
                                            refine VL.va (op_load 6 2 rfl rfl TI24 rfl (fun h => absurd h (by decide)) (ltn rfl)) rfl ?_
                                            refine VL.va (op_load 1 2 rfl rfl TI24 rfl (fun h => absurd h (by decide)) (ltn rfl)) rfl ?_
                                            replace h := Option.bind_eq_some_iff.1 h
                                            obtain ⟨t27875, hA27876, h⟩ := h
                                            refine VL.sC (o_call_b0 FO15 (tarrylaw15_like.ok k r628 t629 ((([] : List S25) ++ r18) ++ ([x27756] : List S25)) t19 v633 v27783 t27875 hA27876) rfl rfl (ltn rfl) (All_of (.cons (.inl (List.mem_of_getElem? (i := 1) rfl)) (.cons (.inr (.inl ⟨_, List.mem_of_getElem? (i := 1) rfl, rfl⟩)) .nil))) (by rintro _ _ _ ⟨rfl, rfl, rfl⟩; rfl)) rfl ?_
                                            rintro _ _ _ ⟨rfl, rfl, rfl⟩
                                            refine VL.va (op_pick rfl rfl (ltn rfl)) rfl ?_
                                            refine VL.va (op_assign rfl (ltn rfl)) rfl ?_
                                            refine VL.done ?_
                                            refine VN.then ?_
                                            refine VC.ret ?_
                                            obtain rfl := Option.some.inj h
                                            exact VR.fn (rs := [.tmp 6]) [] [] [] rfl (.tmp rfl .nil) ⟨rfl, rfl, rfl⟩ trivial rfl (by decide)
                                          · rw [if_neg c27874] at h
                                            obtain rfl : b27873 = false := hb27873.symm.trans (beq_eq_false_iff_ne.2 c27874)
                                            refine VL.un rfl rfl (ltn rfl) ?_
                                            refine VL.un rfl rfl (ltn rfl) ?_
                                            refine VL.un rfl rfl (ltn rfl) ?_
                                            refine VL.va (op_pick rfl rfl (ltn rfl)) rfl ?_
                                            refine VL.va (op_assign rfl (ltn rfl)) rfl ?_
                                            refine VL.done ?_
                                            refine VN.then ?_
                                            refine VC.ret ?_
                                            cases h
                                      · rw [if_neg c27844] at h
                                        obtain rfl := Bool.eq_false_iff.2 c27844
                                        refine VL.va (op_not rfl rfl (ltn rfl)) rfl ?_
                                        refine VL.va (op_pick rfl rfl (ltn rfl)) rfl ?_
                                        refine VL.done ?_
                                        refine VN.then ?_
                                        refine VC.cond_t rfl ?_
                                        refine VC.seq ?_
                                        refine VC.region ?_
                                        refine VL.va (op_assign rfl (ltn rfl)) rfl ?_
                                        refine VL.done ?_
                                        refine VN.then ?_
                                        refine VC.ret ?_
                                        refine VR.then ?_
                                        cases h
                                    · rw [if_neg c27841] at h
                                      obtain rfl : b27840 = true := hb27840.symm.trans (bne_iff_ne.2 c27841)
                                      refine VL.un rfl rfl (ltn rfl) ?_
                                      refine VL.un rfl rfl (ltn rfl) ?_
                                      refine VL.un rfl rfl (ltn rfl) ?_
                                      refine VL.un rfl rfl (ltn rfl) ?_
                                      refine VL.va (op_pick rfl rfl (ltn rfl)) rfl ?_
                                      refine VL.done ?_
                                      refine VN.then ?_
                                      refine VC.cond_t rfl ?_
                                      refine VC.seq ?_
                                      refine VC.region ?_
                                      refine VL.va (op_assign rfl (ltn rfl)) rfl ?_
                                      refine VL.done ?_
                                      refine VN.then ?_
                                      refine VC.ret ?_
                                      refine VR.then ?_
                                      cases h
                                  · rw [if_neg c27839] at h
                                    obtain rfl := Bool.eq_false_iff.2 c27839
                                    refine VL.va (op_not rfl rfl (ltn rfl)) rfl ?_
                                    refine VL.va (op_pick rfl rfl (ltn rfl)) rfl ?_
                                    refine VL.va (op_move rfl (ltn rfl)) rfl ?_
                                    refine VL.un rfl rfl (ltn rfl) ?_
                                    refine VL.un rfl rfl (ltn rfl) ?_
                                    refine VL.va (op_pick rfl rfl (ltn rfl)) rfl ?_
                                    refine VL.va (op_move rfl (ltn rfl)) rfl ?_
                                    refine VL.un rfl rfl (ltn rfl) ?_
                                    refine VL.un rfl rfl (ltn rfl) ?_
                                    refine VL.un rfl rfl (ltn rfl) ?_
                                    refine VL.un rfl rfl (ltn rfl) ?_
                                    refine VL.va (op_pick rfl rfl (ltn rfl)) rfl ?_
                                    refine VL.done ?_
                                    refine VN.then ?_
                                    refine VC.cond_t rfl ?_
                                    refine VC.seq ?_
                                    refine VC.region ?_
                                    refine VL.va (op_assign rfl (ltn rfl)) rfl ?_
                                    refine VL.done ?_
                                    refine VN.then ?_
                                    refine VC.ret ?_
                                    refine VR.then ?_
                                    cases h
                                · rw [if_neg c27836] at h
                                  obtain rfl : b27835 = true := hb27835.symm.trans (not_f c27836)
                                  refine VL.un rfl rfl (ltn rfl) ?_
                                  refine VL.un rfl rfl (ltn rfl) ?_
                                  refine VL.un rfl rfl (ltn rfl) ?_
                                  refine VL.un rfl rfl (ltn rfl) ?_
                                  refine VL.va (op_pick rfl rfl (ltn rfl)) rfl ?_
                                  refine VL.va (op_move rfl (ltn rfl)) rfl ?_
                                  refine VL.un rfl rfl (ltn rfl) ?_
                                  refine VL.un rfl rfl (ltn rfl) ?_
                                  refine VL.va (op_pick rfl rfl (ltn rfl)) rfl ?_
                                  refine VL.va (op_move rfl (ltn rfl)) rfl ?_
                                  refine VL.un rfl rfl (ltn rfl) ?_
                                  refine VL.un rfl rfl (ltn rfl) ?_
                                  refine VL.un rfl rfl (ltn rfl) ?_
                                  refine VL.un rfl rfl (ltn rfl) ?_
                                  refine VL.va (op_pick rfl rfl (ltn rfl)) rfl ?_
                                  refine VL.done ?_
                                  refine VN.then ?_
                                  refine VC.cond_t rfl ?_
                                  refine VC.seq ?_
                                  refine VC.region ?_
                                  refine VL.va (op_assign rfl (ltn rfl)) rfl ?_
                                  refine VL.done ?_
                                  refine VN.then ?_
                                  refine VC.ret ?_
                                  refine VR.then ?_
                                  cases h
                              · rw [if_neg c27834] at h
                                obtain rfl : b27833 = true := hb27833.symm.trans (bne_iff_ne.2 c27834)
                                refine VL.un rfl rfl (ltn rfl) ?_
                                refine VL.un rfl rfl (ltn rfl) ?_
                                refine VL.un rfl rfl (ltn rfl) ?_
                                refine VL.va (op_pick rfl rfl (ltn rfl)) rfl ?_
                                refine VL.va (op_move rfl (ltn rfl)) rfl ?_
                                refine VL.un rfl rfl (ltn rfl) ?_
                                refine VL.un rfl rfl (ltn rfl) ?_
                                refine VL.un rfl rfl (ltn rfl) ?_
                                refine VL.un rfl rfl (ltn rfl) ?_
                                refine VL.va (op_pick rfl rfl (ltn rfl)) rfl ?_
                                refine VL.va (op_move rfl (ltn rfl)) rfl ?_
                                refine VL.un rfl rfl (ltn rfl) ?_
                                refine VL.un rfl rfl (ltn rfl) ?_
                                refine VL.va (op_pick rfl rfl (ltn rfl)) rfl ?_
                                refine VL.va (op_move rfl (ltn rfl)) rfl ?_
                                refine VL.un rfl rfl (ltn rfl) ?_
                                refine VL.un rfl rfl (ltn rfl) ?_
                                refine VL.un rfl rfl (ltn rfl) ?_
                                refine VL.un rfl rfl (ltn rfl) ?_
                                refine VL.va (op_pick rfl rfl (ltn rfl)) rfl ?_
                                refine VL.done ?_
                                refine VN.then ?_
                                refine VC.cond_t rfl ?_
                                refine VC.seq ?_
                                refine VC.region ?_
                                refine VL.va (op_assign rfl (ltn rfl)) rfl ?_
                                refine VL.done ?_
                                refine VN.then ?_
                                refine VC.ret ?_
                                refine VR.then ?_
                                cases h
                            · rw [if_neg c27793] at h; cases h
                          · rw [if_neg c27788] at h; cases h
                        · rw [if_neg c27782] at h; cases h
                      · rw [if_neg c27772] at h; cases h
                    · rw [if_neg c27769] at h; cases h
                  · rw [if_neg c27768] at h; cases h
                · rw [if_neg c27765] at h; cases h
              · rw [if_neg c27762] at h; cases h
            · rw [if_neg c27755] at h; cases h
          · rw [if_neg c27754] at h
            obtain rfl : b27753 = true := hb27753.symm.trans (bne_iff_ne.2 c27754)
            refine VC.cond_t rfl ?_
            refine VC.seq ?_
            refine VC.region ?_
            refine VL.va (op_move rfl (ltn rfl)) rfl ?_
            refine VL.va (op_move rfl (ltn rfl)) rfl ?_
            refine VL.letter ((t553 == i27712)) fun b27896 hb27896 => ?_
            refine VL.va (op_cmp rfl rfl (congrArg some hb27896) (ltn rfl)) rfl ?_
            refine VL.va (op_move rfl (ltn rfl)) rfl ?_
            by_cases c27897 : t553 = i27712
            · rw [if_pos c27897] at h
              obtain rfl : b27896 = true := hb27896.symm.trans (beq_iff_eq.2 c27897)
              refine VL.va (op_move rfl (ltn rfl)) rfl ?_
              refine VL.va (op_move rfl (ltn rfl)) rfl ?_
              refine VL.letter ((t630 == i27712)) fun b27898 hb27898 => ?_
              refine VL.va (op_cmp rfl rfl (congrArg some hb27898) (ltn rfl)) rfl ?_
              refine VL.va (op_pick rfl rfl (ltn rfl)) rfl ?_
              refine VL.va (op_move rfl (ltn rfl)) rfl ?_
              by_cases c27899 : t630 = i27712
              · rw [if_pos c27899] at h
                obtain rfl : b27898 = true := hb27898.symm.trans (beq_iff_eq.2 c27899)
                refine VL.va (op_move rfl (ltn rfl)) rfl ?_
                refine VL.va (op_move rfl (ltn rfl)) rfl ?_
                refine VL.letter ((t692 == i27712)) fun b27900 hb27900 => ?_
                refine VL.va (op_cmp rfl rfl (congrArg some hb27900) (ltn rfl)) rfl ?_
                refine VL.va (op_pick rfl rfl (ltn rfl)) rfl ?_
                refine VL.va (op_move rfl (ltn rfl)) rfl ?_
                by_cases c27901 : t692 = i27712
                · rw [if_pos c27901] at h
                  obtain rfl : b27900 = true := hb27900.symm.trans (beq_iff_eq.2 c27901)
                  refine VL.va (op_load 3 6 rfl rfl TI26 rfl (fun h => absurd h (by decide)) (ltn rfl)) rfl ?_
                  refine VL.va (op_build (vals := []) (vcs := []) (cells := [.int .i64 0, .bool false, .int .i64 0, .int .i64 0, .int .i64 0, .bool false]) SI26 rfl .nil (by kernel_rfl) (ltn rfl)) rfl ?_
                  refine VL.letter ((((t547 == 0) && ((t548 == false) && ((t549 == 0) && ((t550 == 0) && ((t551 == 0) && (t552 == false)))))))) fun b27902 hb27902 => ?_
                  refine VL.va (op_eqS rfl rfl EG26 (EQ26 t547 t548 t549 t550 t551 t552 0 false 0 0 0 false) hb27902 (ltn rfl)) rfl ?_
                  refine VL.va (op_pick rfl rfl (ltn rfl)) rfl ?_
                  refine VL.va (op_move rfl (ltn rfl)) rfl ?_
                  by_cases c27903 : (((t547 == 0) && ((t548 == false) && ((t549 == 0) && ((t550 == 0) && ((t551 == 0) && (t552 == false))))))) = true
                  · rw [if_pos c27903] at h
                    obtain rfl : b27902 = true := hb27902.symm.trans (c27903)
                    refine VL.va (op_load 4 2 rfl rfl TI24 rfl (fun h => absurd h (by decide)) (ltn rfl)) rfl ?_
                    refine VL.va (op_load 0 2 rfl rfl TI24 rfl (fun h => absurd h (by decide)) (ltn rfl)) rfl ?_
                    refine VL.nilFact' 6 ?_
                    replace h := Option.bind_eq_some_iff.1 h
                    obtain ⟨t27905, hA27906, h⟩ := h
                    refine VL.sC (o_call0 FO15 (tarrylaw15_like.ok k r545 t546 [] 0 v556 (.slice none 0 0) t27905 hA27906) rfl rfl (ltn rfl) (All_of (.cons (List.mem_of_getElem? (i := 3) rfl) (.cons (List.mem_of_getElem? (i := 0) rfl) .nil)))) rfl ?_
                    rintro _ _ _ ⟨rfl, rfl, rfl⟩
                    refine VL.va (op_pick rfl rfl (ltn rfl)) rfl ?_
                    refine VL.va (op_move rfl (ltn rfl)) rfl ?_
                    by_cases c27907 : t27905 = true
                    · rw [if_pos c27907] at h
                      obtain rfl := c27907
                      refine VL.va (op_load 2 2 rfl rfl TI24 rfl (fun h => absurd h (by decide)) (ltn rfl)) rfl ?_
                      refine VL.va (op_load 0 2 rfl rfl TI24 rfl (fun h => absurd h (by decide)) (ltn rfl)) rfl ?_
                      refine VL.nilFact' 6 ?_
                      replace h := Option.bind_eq_some_iff.1 h
                      obtain ⟨t27909, hA27910, h⟩ := h
                      refine VL.sC (o_call0 FO15 (tarrylaw15_like.ok k r628 t629 [] 0 v633 (.slice none 0 0) t27909 hA27910) rfl rfl (ltn rfl) (All_of (.cons (List.mem_of_getElem? (i := 3) rfl) (.cons (List.mem_of_getElem? (i := 0) rfl) .nil)))) rfl ?_
                      rintro _ _ _ ⟨rfl, rfl, rfl⟩
                      refine VL.va (op_pick rfl rfl (ltn rfl)) rfl ?_
                      refine VL.va (op_move rfl (ltn rfl)) rfl ?_
                      by_cases c27911 : t27909 = true
                      · rw [if_pos c27911] at h
                        obtain rfl := c27911
                        refine VL.va (op_load 1 2 rfl rfl TI24 rfl (fun h => absurd h (by decide)) (ltn rfl)) rfl ?_
                        refine VL.va (op_load 0 2 rfl rfl TI24 rfl (fun h => absurd h (by decide)) (ltn rfl)) rfl ?_
                        refine VL.nilFact' 6 ?_
                        replace h := Option.bind_eq_some_iff.1 h
                        obtain ⟨t27913, hA27914, h⟩ := h
                        refine VL.sC (o_call0 FO15 (tarrylaw15_like.ok k r690 t691 [] 0 v695 (.slice none 0 0) t27913 hA27914) rfl rfl (ltn rfl) (All_of (.cons (List.mem_of_getElem? (i := 3) rfl) (.cons (List.mem_of_getElem? (i := 0) rfl) .nil)))) rfl ?_
                        rintro _ _ _ ⟨rfl, rfl, rfl⟩
                        refine VL.va (op_pick rfl rfl (ltn rfl)) rfl ?_
                        refine VL.va (op_assign rfl (ltn rfl)) rfl ?_
                        refine VL.done ?_
                        refine VN.then ?_
                        refine VC.ret ?_
                        refine VR.then ?_
                        obtain rfl := Option.some.inj h
                        exact VR.fn (rs := [.tmp 6]) [] [] [] rfl (.tmp rfl .nil) ⟨rfl, rfl, rfl⟩ trivial rfl (by decide)
                      · rw [if_neg c27911] at h
                        obtain rfl := Bool.eq_false_iff.2 c27911
                        refine VL.un rfl rfl (ltn rfl) ?_
                        refine VL.un rfl rfl (ltn rfl) ?_
                        refine VL.un rfl rfl (ltn rfl) ?_
                        refine VL.va (op_pick rfl rfl (ltn rfl)) rfl ?_
                        refine VL.va (op_assign rfl (ltn rfl)) rfl ?_
                        refine VL.done ?_
                        refine VN.then ?_
                        refine VC.ret ?_
                        refine VR.then ?_
                        cases h
                    · rw [if_neg c27907] at h
                      obtain rfl := Bool.eq_false_iff.2 c27907
                      refine VL.un rfl rfl (ltn rfl) ?_
                      refine VL.un rfl rfl (ltn rfl) ?_
                      refine VL.un rfl rfl (ltn rfl) ?_
                      refine VL.va (op_pick rfl rfl (ltn rfl)) rfl ?_
                      refine VL.va (op_move rfl (ltn rfl)) rfl ?_
                      refine VL.un rfl rfl (ltn rfl) ?_
                      refine VL.un rfl rfl (ltn rfl) ?_
                      refine VL.un rfl rfl (ltn rfl) ?_
                      refine VL.va (op_pick rfl rfl (ltn rfl)) rfl ?_
                      refine VL.va (op_assign rfl (ltn rfl)) rfl ?_
                      refine VL.done ?_
                      refine VN.then ?_
                      refine VC.ret ?_
                      refine VR.then ?_
                      cases h
                  · rw [if_neg c27903] at h
                    obtain rfl : b27902 = false := hb27902.symm.trans (Bool.eq_false_iff.2 c27903)
                    refine VL.un rfl rfl (ltn rfl) ?_
                    refine VL.un rfl rfl (ltn rfl) ?_
                    refine VL.un rfl rfl (ltn rfl) ?_
                    refine VL.va (op_pick rfl rfl (ltn rfl)) rfl ?_
                    refine VL.va (op_move rfl (ltn rfl)) rfl ?_
                    refine VL.un rfl rfl (ltn rfl) ?_
                    refine VL.un rfl rfl (ltn rfl) ?_
                    refine VL.un rfl rfl (ltn rfl) ?_
                    refine VL.va (op_pick rfl rfl (ltn rfl)) rfl ?_
                    refine VL.va (op_move rfl (ltn rfl)) rfl ?_
                    refine VL.un rfl rfl (ltn rfl) ?_
                    refine VL.un rfl rfl (ltn rfl) ?_
                    refine VL.un rfl rfl (ltn rfl) ?_
                    refine VL.va (op_pick rfl rfl (ltn rfl)) rfl ?_
                    refine VL.va (op_assign rfl (ltn rfl)) rfl ?_
                    refine VL.done ?_
                    refine VN.then ?_
                    refine VC.ret ?_
                    refine VR.then ?_
                    cases h
                · rw [if_neg c27901] at h
                  obtain rfl : b27900 = false := hb27900.symm.trans (beq_eq_false_iff_ne.2 c27901)
                  refine VL.un rfl rfl (ltn rfl) ?_
                  refine VL.un rfl rfl (ltn rfl) ?_
                  refine VL.un rfl rfl (ltn rfl) ?_
                  refine VL.va (op_pick rfl rfl (ltn rfl)) rfl ?_
                  refine VL.va (op_move rfl (ltn rfl)) rfl ?_
                  refine VL.un rfl rfl (ltn rfl) ?_
                  refine VL.un rfl rfl (ltn rfl) ?_
                  refine VL.un rfl rfl (ltn rfl) ?_
                  refine VL.va (op_pick rfl rfl (ltn rfl)) rfl ?_
                  refine VL.va (op_move rfl (ltn rfl)) rfl ?_
                  refine VL.un rfl rfl (ltn rfl) ?_
                  refine VL.un rfl rfl (ltn rfl) ?_
                  refine VL.un rfl rfl (ltn rfl) ?_
                  refine VL.va (op_pick rfl rfl (ltn rfl)) rfl ?_
                  refine VL.va (op_move rfl (ltn rfl)) rfl ?_
                  refine VL.un rfl rfl (ltn rfl) ?_
                  refine VL.un rfl rfl (ltn rfl) ?_
                  refine VL.un rfl rfl (ltn rfl) ?_
                  refine VL.va (op_pick rfl rfl (ltn rfl)) rfl ?_
                  refine VL.va (op_assign rfl (ltn rfl)) rfl ?_
                  refine VL.done ?_
                  refine VN.then ?_
                  refine VC.ret ?_
                  refine VR.then ?_
                  cases h
              · rw [if_neg c27899] at h
                obtain rfl : b27898 = false := hb27898.symm.trans (beq_eq_false_iff_ne.2 c27899)
                refine VL.un rfl rfl (ltn rfl) ?_
                refine VL.un rfl rfl (ltn rfl) ?_
                refine VL.un rfl rfl (ltn rfl) ?_
                refine VL.va (op_pick rfl rfl (ltn rfl)) rfl ?_
                refine VL.va (op_move rfl (ltn rfl)) rfl ?_
                refine VL.un rfl rfl (ltn rfl) ?_
                refine VL.un rfl rfl (ltn rfl) ?_
                refine VL.un rfl rfl (ltn rfl) ?_
                refine VL.va (op_pick rfl rfl (ltn rfl)) rfl ?_
                refine VL.va (op_move rfl (ltn rfl)) rfl ?_
                refine VL.un rfl rfl (ltn rfl) ?_
                refine VL.un rfl rfl (ltn rfl) ?_
                refine VL.un rfl rfl (ltn rfl) ?_
                refine VL.va (op_pick rfl rfl (ltn rfl)) rfl ?_
                refine VL.va (op_move rfl (ltn rfl)) rfl ?_
                refine VL.un rfl rfl (ltn rfl) ?_
                refine VL.un rfl rfl (ltn rfl) ?_
                refine VL.un rfl rfl (ltn rfl) ?_
                refine VL.va (op_pick rfl rfl (ltn rfl)) rfl ?_
                refine VL.va (op_move rfl (ltn rfl)) rfl ?_
                refine VL.un rfl rfl (ltn rfl) ?_
                refine VL.un rfl rfl (ltn rfl) ?_
                refine VL.un rfl rfl (ltn rfl) ?_
                refine VL.va (op_pick rfl rfl (ltn rfl)) rfl ?_
                refine VL.va (op_assign rfl (ltn rfl)) rfl ?_
                refine VL.done ?_
                refine VN.then ?_
                refine VC.ret ?_
                refine VR.then ?_
                cases h
            · rw [if_neg c27897] at h
              obtain rfl : b27896 = false := hb27896.symm.trans (beq_eq_false_iff_ne.2 c27897)
              refine VL.un rfl rfl (ltn rfl) ?_
              refine VL.un rfl rfl (ltn rfl) ?_
              refine VL.un rfl rfl (ltn rfl) ?_
              refine VL.va (op_pick rfl rfl (ltn rfl)) rfl ?_
              refine VL.va (op_move rfl (ltn rfl)) rfl ?_
              refine VL.un rfl rfl (ltn rfl) ?_
              refine VL.un rfl rfl (ltn rfl) ?_
              refine VL.un rfl rfl (ltn rfl) ?_
              refine VL.va (op_pick rfl rfl (ltn rfl)) rfl ?_
              refine VL.va (op_move rfl (ltn rfl)) rfl ?_
              refine VL.un rfl rfl (ltn rfl) ?_
              refine VL.un rfl rfl (ltn rfl) ?_
              refine VL.un rfl rfl (ltn rfl) ?_
              refine VL.va (op_pick rfl rfl (ltn rfl)) rfl ?_
              refine VL.va (op_move rfl (ltn rfl)) rfl ?_
              refine VL.un rfl rfl (ltn rfl) ?_
              refine VL.un rfl rfl (ltn rfl) ?_
              refine VL.un rfl rfl (ltn rfl) ?_
              refine VL.va (op_pick rfl rfl (ltn rfl)) rfl ?_
              refine VL.va (op_move rfl (ltn rfl)) rfl ?_
              refine VL.un rfl rfl (ltn rfl) ?_
              refine VL.un rfl rfl (ltn rfl) ?_
              refine VL.un rfl rfl (ltn rfl) ?_
              refine VL.va (op_pick rfl rfl (ltn rfl)) rfl ?_
              refine VL.va (op_move rfl (ltn rfl)) rfl ?_
              refine VL.un rfl rfl (ltn rfl) ?_
              refine VL.un rfl rfl (ltn rfl) ?_
              refine VL.un rfl rfl (ltn rfl) ?_
              refine VL.va (op_pick rfl rfl (ltn rfl)) rfl ?_
              refine VL.va (op_assign rfl (ltn rfl)) rfl ?_
              refine VL.done ?_
              refine VN.then ?_
              refine VC.ret ?_
              refine VR.then ?_
              cases h
        · rw [if_neg c19550] at h; cases h
      · rw [if_neg c19543] at h; cases h
    · rw [if_neg c1067] at h
      obtain rfl := Bool.eq_false_iff.2 c1067
      refine VC.join0 (⟨261, [(2, .int .i64 a2), (3, .pointer (some ⟨g2, 0, none⟩)), (4, .pointer (some ⟨g3, 0, none⟩)), (6, .bool false), (7, .pointer (some ⟨g441, 0, none⟩)), (8, .int .i64 t436), (9, .int .i64 t437), (10, .pointer (some ⟨g557, 0, none⟩)), (11, .pointer (some ⟨g558, 0, none⟩)), (12, .int .i64 t553), (13, .pointer (some ⟨g634, 0, none⟩)), (14, .int .i64 t630), (15, .pointer (some ⟨g696, 0, none⟩)), (16, .int .i64 t692), (17, .pointer (some ⟨g697, 0, none⟩)), (62, .bool true)], [.row v695 6 (r690.map enc25), .row v633 6 (r628.map enc25), .row v556 6 (r545.map enc25), .row v440 6 (r434.map enc25), .row v22 6 (r18.map enc25)], [(g697, 24, [.slice none 0 0, .int .i64 0]), (g696, 24, [v695, .int .i64 t691]), (g634, 24, [v633, .int .i64 t629]), (g558, 26, [.int .i64 t547, .bool t548, .int .i64 t549, .int .i64 t550, .int .i64 t551, .bool t552]), (g557, 24, [v556, .int .i64 t546]), (g441, 24, [v440, .int .i64 t435]), (g3, 26, [.int .i64 a1_0, .bool a1_1, .int .i64 a1_2, .int .i64 a1_3, .int .i64 a1_4, .bool a1_5]), (g2, 24, [v22, .int .i64 t19])], []⟩) (True) ?_ ?_
      · refine VC.draw ⟨0, [], [], [(g2, 24, [v22, .int .i64 t19])], []⟩ (by kernel_rfl) rfl (by kernel_rfl) (n := 9) (listed := LB 9 0) ?_
        refine VA.va (i := 0) (listed' := LB 9 1) rfl (op_load 0 2 rfl rfl TI24 rfl (fun h => absurd h (by decide)) (ltn rfl)) rfl (by kernel_rfl) (by kernel_rfl) (by kernel_rfl) (by kernel_rfl) ⟨trivial, ⟨⟨7, rfl⟩, trivial⟩, trivial⟩ (fun _ _ _ h => h) ?_
        refine VA.va (i := 2) (listed' := LB 9 5) rfl (op_load 0 2 rfl rfl TI24 rfl (fun h => absurd h (by decide)) (ltn rfl)) rfl (by kernel_rfl) (by kernel_rfl) (by kernel_rfl) (by kernel_rfl) ⟨trivial, ⟨⟨7, rfl⟩, trivial⟩, trivial⟩ (fun _ _ _ h => h) ?_
        refine VA.oneC (i := 1) (listed' := LB 9 7) (by kernel_rfl) rfl (o_call0 FO11 (net_Right.ok k r18 t19 v22 t1059 hA1060) rfl rfl (ltn rfl) (All_of (.cons (List.mem_of_getElem? (i := 4) rfl) .nil))) rfl (by kernel_rfl) ?_
        rintro _ _ _ ⟨rfl, rfl, rfl⟩
        refine ⟨⟨trivial, ⟨⟨7, rfl⟩, trivial⟩, trivial⟩, ?_⟩
        refine VA.oneC (i := 3) (listed' := LB 9 15) (by kernel_rfl) rfl (o_call0 FO12 (tarrylaw15_right.ok k r18 t19 v22 t1061 hA1062) rfl rfl (ltn rfl) (All_of (.cons (List.mem_of_getElem? (i := 4) rfl) .nil))) rfl (by kernel_rfl) ?_
        rintro _ _ _ ⟨rfl, rfl, rfl⟩
        refine ⟨⟨trivial, ⟨⟨7, rfl⟩, trivial⟩, trivial⟩, ?_⟩
        refine VA.va (i := 4) (listed' := LB 9 31) rfl (op_eqb Try.underlying4 rfl rfl (congrArg some hb1063) (ltn rfl)) rfl (by kernel_rfl) (by kernel_rfl) (by kernel_rfl) (by kernel_rfl) ⟨trivial, ⟨⟨7, rfl⟩, trivial⟩, trivial⟩ (fun _ _ _ h => h) ?_
        refine VA.va (i := 5) (listed' := LB 9 63) rfl (op_move rfl (ltn rfl)) rfl (by kernel_rfl) (by kernel_rfl) (by kernel_rfl) (by kernel_rfl) ⟨trivial, ⟨⟨7, rfl⟩, trivial⟩, trivial⟩ (fun _ _ _ h => h) ?_
        refine VA.oneC (i := 6) (listed' := LB 9 127) (by kernel_rfl) rfl (o_call0 FO13 (tarrylaw15_alive.ok k false hA1066) rfl rfl (ltn rfl) (All_of .nil)) rfl (by kernel_rfl) ?_
        rintro _ _ _ ⟨rfl, rfl, rfl⟩
        refine ⟨⟨trivial, ⟨⟨7, rfl⟩, trivial⟩, trivial⟩, ?_⟩
        refine VA.va (i := 7) (listed' := LB 9 255) rfl (op_not rfl rfl (ltn rfl)) rfl (by kernel_rfl) (by kernel_rfl) (by kernel_rfl) (by kernel_rfl) ⟨trivial, ⟨⟨7, rfl⟩, trivial⟩, trivial⟩ (fun _ _ _ h => h) ?_
        refine VA.va (i := 8) (listed' := LB 9 511) rfl (op_pick rfl rfl (ltn rfl)) rfl (by kernel_rfl) (by kernel_rfl) (by kernel_rfl) (by kernel_rfl) ⟨trivial, ⟨⟨7, rfl⟩, trivial⟩, trivial⟩ (fun _ _ _ h => h) ?_
        refine VA.done (by kernel_rfl) ?_
        exact VN.meet0  [0, 1, 2, 3, 4, 5, 6, 7] [] trivial ⟨rfl, ⟨rfl, rfl, rfl, rfl, rfl, rfl, rfl, rfl, rfl, rfl, rfl, rfl, rfl, rfl, rfl, rfl, trivial⟩, ⟨⟨0, rfl⟩, ⟨1, rfl⟩, ⟨2, rfl⟩, ⟨3, rfl⟩, ⟨4, rfl⟩, trivial⟩, rfl, by decide, rfl, by decide⟩
      intro _
      refine VC.cond_t rfl ?_
      refine VC.seq ?_
      refine VC.region ?_
      refine VL.va (op_assign rfl (ltn rfl)) rfl ?_
      refine VL.done ?_
      refine VN.then ?_
      refine VC.ret ?_
      refine VR.then ?_
      cases h
  · rw [if_neg c1064] at h
    obtain rfl : b1063 = true := hb1063.symm.trans (by simpa using c1064)
    refine VC.join0 (⟨261, [(2, .int .i64 a2), (3, .pointer (some ⟨g2, 0, none⟩)), (4, .pointer (some ⟨g3, 0, none⟩)), (6, .bool false), (7, .pointer (some ⟨g441, 0, none⟩)), (8, .int .i64 t436), (9, .int .i64 t437), (10, .pointer (some ⟨g557, 0, none⟩)), (11, .pointer (some ⟨g558, 0, none⟩)), (12, .int .i64 t553), (13, .pointer (some ⟨g634, 0, none⟩)), (14, .int .i64 t630), (15, .pointer (some ⟨g696, 0, none⟩)), (16, .int .i64 t692), (17, .pointer (some ⟨g697, 0, none⟩)), (62, .bool true)], [.row v695 6 (r690.map enc25), .row v633 6 (r628.map enc25), .row v556 6 (r545.map enc25), .row v440 6 (r434.map enc25), .row v22 6 (r18.map enc25)], [(g697, 24, [.slice none 0 0, .int .i64 0]), (g696, 24, [v695, .int .i64 t691]), (g634, 24, [v633, .int .i64 t629]), (g558, 26, [.int .i64 t547, .bool t548, .int .i64 t549, .int .i64 t550, .int .i64 t551, .bool t552]), (g557, 24, [v556, .int .i64 t546]), (g441, 24, [v440, .int .i64 t435]), (g3, 26, [.int .i64 a1_0, .bool a1_1, .int .i64 a1_2, .int .i64 a1_3, .int .i64 a1_4, .bool a1_5]), (g2, 24, [v22, .int .i64 t19])], []⟩) (True) ?_ ?_
    · refine VC.draw ⟨0, [], [], [(g2, 24, [v22, .int .i64 t19])], []⟩ (by kernel_rfl) rfl (by kernel_rfl) (n := 9) (listed := LB 9 0) ?_
      refine VA.va (i := 0) (listed' := LB 9 1) rfl (op_load 0 2 rfl rfl TI24 rfl (fun h => absurd h (by decide)) (ltn rfl)) rfl (by kernel_rfl) (by kernel_rfl) (by kernel_rfl) (by kernel_rfl) ⟨trivial, ⟨⟨7, rfl⟩, trivial⟩, trivial⟩ (fun _ _ _ h => h) ?_
      refine VA.va (i := 2) (listed' := LB 9 5) rfl (op_load 0 2 rfl rfl TI24 rfl (fun h => absurd h (by decide)) (ltn rfl)) rfl (by kernel_rfl) (by kernel_rfl) (by kernel_rfl) (by kernel_rfl) ⟨trivial, ⟨⟨7, rfl⟩, trivial⟩, trivial⟩ (fun _ _ _ h => h) ?_
      refine VA.oneC (i := 1) (listed' := LB 9 7) (by kernel_rfl) rfl (o_call0 FO11 (net_Right.ok k r18 t19 v22 t1059 hA1060) rfl rfl (ltn rfl) (All_of (.cons (List.mem_of_getElem? (i := 4) rfl) .nil))) rfl (by kernel_rfl) ?_
      rintro _ _ _ ⟨rfl, rfl, rfl⟩
      refine ⟨⟨trivial, ⟨⟨7, rfl⟩, trivial⟩, trivial⟩, ?_⟩
      refine VA.oneC (i := 3) (listed' := LB 9 15) (by kernel_rfl) rfl (o_call0 FO12 (tarrylaw15_right.ok k r18 t19 v22 t1061 hA1062) rfl rfl (ltn rfl) (All_of (.cons (List.mem_of_getElem? (i := 4) rfl) .nil))) rfl (by kernel_rfl) ?_
      rintro _ _ _ ⟨rfl, rfl, rfl⟩
      refine ⟨⟨trivial, ⟨⟨7, rfl⟩, trivial⟩, trivial⟩, ?_⟩
      refine VA.va (i := 4) (listed' := LB 9 31) rfl (op_eqb Try.underlying4 rfl rfl (congrArg some hb1063) (ltn rfl)) rfl (by kernel_rfl) (by kernel_rfl) (by kernel_rfl) (by kernel_rfl) ⟨trivial, ⟨⟨7, rfl⟩, trivial⟩, trivial⟩ (fun _ _ _ h => h) ?_
      refine VA.va (i := 5) (listed' := LB 9 63) rfl (op_move rfl (ltn rfl)) rfl (by kernel_rfl) (by kernel_rfl) (by kernel_rfl) (by kernel_rfl) ⟨trivial, ⟨⟨7, rfl⟩, trivial⟩, trivial⟩ (fun _ _ _ h => h) ?_
      refine VA.un (i := 6) (listed' := LB 9 127) rfl rfl rfl (ltn rfl) (by kernel_rfl) (by kernel_rfl) (by kernel_rfl) (by kernel_rfl) ⟨trivial, ⟨⟨7, rfl⟩, trivial⟩, trivial⟩ (fun _ _ _ h => h) ?_
      refine VA.un (i := 7) (listed' := LB 9 255) rfl rfl rfl (ltn rfl) (by kernel_rfl) (by kernel_rfl) (by kernel_rfl) (by kernel_rfl) ⟨trivial, ⟨⟨7, rfl⟩, trivial⟩, trivial⟩ (fun _ _ _ h => h) ?_
      refine VA.va (i := 8) (listed' := LB 9 511) rfl (op_pick rfl rfl (ltn rfl)) rfl (by kernel_rfl) (by kernel_rfl) (by kernel_rfl) (by kernel_rfl) ⟨trivial, ⟨⟨7, rfl⟩, trivial⟩, trivial⟩ (fun _ _ _ h => h) ?_
      refine VA.done (by kernel_rfl) ?_
      exact VN.meet0  [0, 1, 2, 3, 4, 5, 6, 7] [] trivial ⟨rfl, ⟨rfl, rfl, rfl, rfl, rfl, rfl, rfl, rfl, rfl, rfl, rfl, rfl, rfl, rfl, rfl, rfl, trivial⟩, ⟨⟨0, rfl⟩, ⟨1, rfl⟩, ⟨2, rfl⟩, ⟨3, rfl⟩, ⟨4, rfl⟩, trivial⟩, rfl, by decide, rfl, by decide⟩
    intro _
    refine VC.cond_t rfl ?_
    refine VC.seq ?_
    refine VC.region ?_
    refine VL.va (op_assign rfl (ltn rfl)) rfl ?_
    refine VL.done ?_
    refine VN.then ?_
    refine VC.ret ?_
    refine VR.then ?_
    cases h

end Go.Proofs.Ytjghhdnecilcfaa.PNetGoes
