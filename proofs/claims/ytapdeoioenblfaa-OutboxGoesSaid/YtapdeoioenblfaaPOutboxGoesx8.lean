/- Written by a program of this repo: what the program's functions do, each as a Lean function, shown of the loaded code; or a statement's row over that; no condition of its own. -/
import Derived.Test.YtapdeoioenblfaaPOutboxGoesx7
namespace Go.Proofs.Ytapdeoioenblfaa.POutboxGoes
open Go Go.RowKit Go.Proofs.YtapdeoioenblfaaV
set_option linter.unusedVariables false
set_option linter.unusedSimpArgs false

set_option maxHeartbeats 4000000 in
set_option maxRecDepth 100000 in
theorem tarrylaw14_OutboxGoes.ok (k : Nat) (a0_0 : Int) (l0_1 : List S33) (a1 : Int) (a2 : Int) (a3 : Int) (a4 : Int) (v0_1 : Value) (r1 : Bool) (h : tarrylaw14_OutboxGoes.f k a0_0 l0_1 a1 a2 a3 a4 = some r1) :
    VCalls Try.prog 4 [.agg #[.int .i64 a0_0, v0_1], .int .i64 a1, .int .i64 a2, .int .i64 a3, .int .i64 a4] [.row v0_1 4 (l0_1.map enc33)] (fun v G own => v = .bool r1 ∧ G = [] ∧ own = []) := by
  refine VCalls.intro Try.func4 rfl (len rfl) fun E hC hW hD => ?_
  unfold tarrylaw14_OutboxGoes.f at h
  refine VC.seq ?_
  refine VC.region ?_
  refine VL.sG (o_box rfl (.agg (.c rfl (.f 0 rfl .nil))) (ltn rfl)) rfl ?_
  intro g2
  refine VL.va (op_assign rfl (ltn rfl)) rfl ?_
  refine VL.done ?_
  refine VN.then ?_
  refine VC.seq ?_
  refine VC.region ?_
  refine VL.va (op_load 0 2 rfl rfl TI25 rfl (fun h => absurd h (by decide)) (ltn rfl)) rfl ?_
  replace h := Option.bind_eq_some_iff.1 h
  obtain ⟨⟨t17, r18⟩, hA19, h⟩ := h
  dsimp only at h
  refine VL.sC (o_call0 FO10 (tarrylaw14_few.ok a0_0 l0_1 v0_1 t17 r18 hA19) rfl rfl (ltn rfl) (All_of (.cons (List.mem_of_getElem? (i := 0) rfl) .nil))) rfl ?_
  rintro _ _ _ ⟨v21, rfl, rfl, rfl⟩
  refine VL.step1 (o_store 0 2 rfl rfl rfl TI25 (.agg (.c rfl (.f 0 rfl .nil))) rfl (len rfl)) rfl ?_
  refine VL.done ?_
  refine VN.then ?_
  refine VC.seq ?_
  refine VC.region ?_
  refine VL.va (op_load 0 2 rfl rfl TI25 rfl (fun h => absurd h (by decide)) (ltn rfl)) rfl ?_
  refine VL.va (op_move rfl (ltn rfl)) rfl ?_
  refine VL.va (op_move rfl (ltn rfl)) rfl ?_
  refine VL.va (op_move rfl (ltn rfl)) rfl ?_
  replace h := Option.bind_eq_some_iff.1 h
  obtain ⟨⟨t1021, r1022, t1023, t1024⟩, hA1025, h⟩ := h
  dsimp only at h
  refine VL.sC (o_call0 FO5 (outbox_Put.ok k t17 r18 a1 a2 a3 v21 t1021 r1022 t1023 t1024 hA1025) rfl rfl (ltn rfl) (All_of (.cons (List.mem_of_getElem? (i := 0) rfl) .nil))) rfl ?_
  rintro _ _ _ ⟨v1027, rfl, rfl, rfl⟩
  refine VL.va (op_move rfl (ltn rfl)) rfl ?_
  refine VL.va (op_extract rfl rfl (ltn rfl)) rfl ?_
  refine VL.va (op_extract rfl rfl (ltn rfl)) rfl ?_
  refine VL.va (op_extract rfl rfl (ltn rfl)) rfl ?_
  refine VL.sG (o_alloc Z25 ZL25 (ltn rfl)) rfl ?_
  intro g1028
  refine VL.step1 (o_store 0 2 rfl rfl rfl TI25 (.agg (.c rfl (.f 0 rfl .nil))) rfl (len rfl)) rfl ?_
  refine VL.va (op_assign rfl (ltn rfl)) rfl ?_
  refine VL.va (op_assign rfl (ltn rfl)) rfl ?_
  refine VL.done ?_
  refine VN.then ?_
  refine VC.seq ?_
  refine VC.region ?_
  refine VL.va (op_load 1 2 rfl rfl TI25 rfl (fun h => absurd h (by decide)) (ltn rfl)) rfl ?_
  refine VL.va (op_move rfl (ltn rfl)) rfl ?_
  replace h := Option.bind_eq_some_iff.1 h
  obtain ⟨⟨t1175, r1176, t1177, t1178, t1179, t1180, t1181⟩, hA1182, h⟩ := h
  dsimp only at h
  refine VL.sC (o_call0 FO6 (outbox_Done.ok k t17 r18 a4 v21 t1175 r1176 t1177 t1178 t1179 t1180 t1181 hA1182) rfl rfl (ltn rfl) (All_of (.cons (List.mem_of_getElem? (i := 1) rfl) .nil))) rfl ?_
  rintro _ _ _ ⟨v1184, rfl, rfl, rfl⟩
  refine VL.va (op_move rfl (ltn rfl)) rfl ?_
  refine VL.va (op_extract rfl rfl (ltn rfl)) rfl ?_
  refine VL.va (op_extract rfl rfl (ltn rfl)) rfl ?_
  refine VL.va (op_extract rfl rfl (ltn rfl)) rfl ?_
  refine VL.sG (o_alloc Z25 ZL25 (ltn rfl)) rfl ?_
  intro g1185
  refine VL.sG (o_alloc Z34 ZL34 (ltn rfl)) rfl ?_
  intro g1186
  refine VL.step1 (o_store 1 2 rfl rfl rfl TI25 (.agg (.c rfl (.r 0 rfl .nil))) rfl (len rfl)) rfl ?_
  refine VL.step1 (o_store 0 4 rfl rfl rfl TI34 (.agg (.of rfl)) rfl (len rfl)) rfl ?_
  refine VL.va (op_assign rfl (ltn rfl)) rfl ?_
  refine VL.done ?_
  refine VN.then ?_
  refine VC.seq ?_
  refine VC.region ?_
  refine VL.va (op_load 3 2 rfl rfl TI25 rfl (fun h => absurd h (by decide)) (ltn rfl)) rfl ?_
  refine VL.va (op_move rfl (ltn rfl)) rfl ?_
  refine VL.va (op_move rfl (ltn rfl)) rfl ?_
  replace h := Option.bind_eq_some_iff.1 h
  obtain ⟨⟨t1217, t1218, t1219, t1220, t1221⟩, hA1222, h⟩ := h
  dsimp only at h
  refine VL.sC (o_call0 FO11 (outbox_Find.ok k t17 r18 a1 a2 v21 t1217 t1218 t1219 t1220 t1221 hA1222) rfl rfl (ltn rfl) (All_of (.cons (List.mem_of_getElem? (i := 1) rfl) .nil))) rfl ?_
  rintro _ _ _ ⟨rfl, rfl, rfl⟩
  refine VL.va (op_move rfl (ltn rfl)) rfl ?_
  refine VL.va (op_extract rfl rfl (ltn rfl)) rfl ?_
  refine VL.va (op_extract rfl rfl (ltn rfl)) rfl ?_
  refine VL.sG (o_alloc Z34 ZL34 (ltn rfl)) rfl ?_
  intro g1223
  refine VL.step1 (o_store 0 4 rfl rfl rfl TI34 (.agg (.of rfl)) rfl (len rfl)) rfl ?_
  refine VL.va (op_assign rfl (ltn rfl)) rfl ?_
  refine VL.done ?_
  refine VN.then ?_
  refine VC.seq ?_
  refine VC.region ?_
  refine VL.va (op_load 4 2 rfl rfl TI25 rfl (fun h => absurd h (by decide)) (ltn rfl)) rfl ?_
  refine VL.va (op_move rfl (ltn rfl)) rfl ?_
  replace h := Option.bind_eq_some_iff.1 h
  obtain ⟨⟨t1487, r1488, r1489, t1490⟩, hA1491, h⟩ := h
  dsimp only at h
  refine VL.sC (o_call0 FO7 (outbox_Tell.ok k t17 r18 a3 v21 t1487 r1488 r1489 t1490 hA1491) rfl rfl (ltn rfl) (All_of (.cons (List.mem_of_getElem? (i := 1) rfl) .nil))) rfl ?_
  rintro _ _ _ ⟨v1493, v1495, rfl, rfl, rfl⟩
  refine VL.va (op_move rfl (ltn rfl)) rfl ?_
  refine VL.va (op_extract rfl rfl (ltn rfl)) rfl ?_
  refine VL.va (op_extract rfl rfl (ltn rfl)) rfl ?_
  refine VL.va (op_extract rfl rfl (ltn rfl)) rfl ?_
  refine VL.sG (o_alloc Z25 ZL25 (ltn rfl)) rfl ?_
  intro g1496
  refine VL.step1 (o_store 0 2 rfl rfl rfl TI25 (.agg (.c rfl (.r 0 rfl .nil))) rfl (len rfl)) rfl ?_
  refine VL.va (op_assign rfl (ltn rfl)) rfl ?_
  refine VL.va (op_assign rfl (ltn rfl)) rfl ?_
  refine VL.done ?_
  refine VN.then ?_
  refine VC.seq ?_
  refine VC.region ?_
  refine VL.va (op_build (vals := []) (vcs := []) (cells := [.int .i64 0, .slice none 0 0]) SI25 rfl .nil (by kernel_rfl) (ltn rfl)) rfl ?_
  refine VL.sG (o_alloc Z25 ZL25 (ltn rfl)) rfl ?_
  intro g1497
  refine VL.step1 (o_store 0 2 rfl rfl rfl TI25 (.agg (.of rfl)) rfl (len rfl)) rfl ?_
  refine VL.done ?_
  refine VN.then ?_
  refine VC.seq ?_
  refine VC.region ?_
  refine VL.va (op_load 6 2 rfl rfl TI25 rfl (fun h => absurd h (by decide)) (ltn rfl)) rfl ?_
  refine VL.va (op_move rfl (ltn rfl)) rfl ?_
  refine VL.va (op_move rfl (ltn rfl)) rfl ?_
  refine VL.va (op_move rfl (ltn rfl)) rfl ?_
  replace h := Option.bind_eq_some_iff.1 h
  obtain ⟨⟨t3850, r3851, t3852, t3853⟩, hA3854, h⟩ := h
  dsimp only at h
  refine VL.sC (o_call0 FO12 (tarryref14_Put.ok k t17 r18 a1 a2 a3 v21 t3850 r3851 t3852 t3853 hA3854) rfl rfl (ltn rfl) (All_of (.cons (List.mem_of_getElem? (i := 1) rfl) .nil))) rfl ?_
  rintro _ _ _ ⟨v3856, rfl, rfl, rfl⟩
  refine VL.sG (o_alloc Z46 ZL46 (ltn rfl)) rfl ?_
  intro g3857
  refine VL.step1 (o_store 0 4 rfl rfl rfl TI46 (.agg (.c rfl (.r 0 rfl (.c rfl (.c rfl .nil))))) rfl (len rfl)) rfl ?_
  refine VL.done ?_
  refine VN.then ?_
  refine VC.seq ?_
  replace h := Option.bind_eq_some_iff.1 h
  obtain ⟨t4015, hA4016, h⟩ := h
  replace h := Option.bind_eq_some_iff.1 h
  obtain ⟨t4017, hA4018, h⟩ := h
  refine VC.letter ((!(t4015 == t4017))) fun b4019 hb4019 => ?_
  by_cases c4020 : t4015 = t4017
  · rw [if_pos c4020] at h
    obtain rfl : b4019 = false := hb4019.symm.trans (by rw [c4020]; simp)
    refine VC.letter ((t1024 != t3853)) fun b4021 hb4021 => ?_
    by_cases c4022 : t1024 = t3853
    · rw [if_pos c4022] at h
      obtain rfl : b4021 = false := hb4021.symm.trans (bne_eq_false_iff_eq.2 c4022)
      refine VC.letter ((t1023 != t3852)) fun b4023 hb4023 => ?_
      by_cases c4024 : t1023 = t3852
      · rw [if_pos c4024] at h
        obtain rfl : b4023 = false := hb4023.symm.trans (bne_eq_false_iff_eq.2 c4024)
        replace h := Option.bind_eq_some_iff.1 h
        obtain ⟨t4025, hA4026, h⟩ := h
        by_cases c4027 : t4025 = true
        · rw [if_pos c4027] at h
          obtain rfl := c4027
          replace h := Option.bind_eq_some_iff.1 h
          obtain ⟨t4028, hA4029, h⟩ := h
          by_cases c4030 : t4028 = true
          · rw [if_pos c4030] at h
            obtain rfl := c4030
            refine VC.join0 (⟨224, [(1, .int .i64 a1), (2, .int .i64 a2), (3, .int .i64 a3), (4, .int .i64 a4), (5, .pointer (some ⟨g2, 0, none⟩)), (10, .bool false), (14, .pointer (some ⟨g1185, 0, none⟩)), (15, .pointer (some ⟨g1186, 0, none⟩)), (16, .int .i64 t1181), (17, .pointer (some ⟨g1223, 0, none⟩)), (18, .int .i64 t1221), (19, .pointer (some ⟨g1496, 0, none⟩)), (20, v1495), (21, .int .i64 t1490), (22, .pointer (some ⟨g1497, 0, none⟩)), (91, .bool false)], [.row v21 4 (r18.map enc33)], [(g1497, 25, [.int .i64 0, .slice none 0 0]), (g1496, 25, [.int .i64 t1487, v1493]), (g1223, 34, [.int .i64 t1217, .int .i64 t1218, .int .i64 t1219, .int .i64 t1220]), (g1186, 34, [.int .i64 t1177, .int .i64 t1178, .int .i64 t1179, .int .i64 t1180]), (g1185, 25, [.int .i64 t1175, v1184]), (g2, 25, [.int .i64 t17, v21])], [(v1493, 34, 4, r1488.map enc33), (v1495, 34, 4, r1489.map enc33), (v1184, 34, 4, r1176.map enc33)]⟩) (True) ?_ ?_
            · refine VC.draw ⟨0, [], [], [(g3857, 46, [.int .i64 t3850, v3856, .int .i64 t3852, .int .i64 t3853]), (g1028, 25, [.int .i64 t1021, v1027]), (g2, 25, [.int .i64 t17, v21])], []⟩ (by kernel_rfl) rfl (by kernel_rfl) (n := 28) (listed := LB 28 0) ?_
              refine VA.va (i := 0) (listed' := LB 28 1) rfl (op_load 2 2 rfl rfl TI25 rfl (fun h => absurd h (by decide)) (ltn rfl)) rfl (by kernel_rfl) (by kernel_rfl) (by kernel_rfl) (by kernel_rfl) ⟨trivial, ⟨⟨0, rfl⟩, ⟨6, rfl⟩, ⟨7, rfl⟩, trivial⟩, trivial⟩ (fun _ _ _ h => h) ?_
              refine VA.va (i := 2) (listed' := LB 28 5) rfl (op_load 2 2 rfl rfl TI25 rfl (fun h => absurd h (by decide)) (ltn rfl)) rfl (by kernel_rfl) (by kernel_rfl) (by kernel_rfl) (by kernel_rfl) ⟨trivial, ⟨⟨0, rfl⟩, ⟨6, rfl⟩, ⟨7, rfl⟩, trivial⟩, trivial⟩ (fun _ _ _ h => h) ?_
              refine VA.oneC (i := 1) (listed' := LB 28 7) (by kernel_rfl) rfl (o_call0 FO8 (outbox_Right.ok k t17 r18 v21 t4015 hA4016) rfl rfl (ltn rfl) (All_of (.cons (List.mem_of_getElem? (i := 1) rfl) .nil))) rfl (by kernel_rfl) ?_
              rintro _ _ _ ⟨rfl, rfl, rfl⟩
              refine ⟨⟨trivial, ⟨⟨0, rfl⟩, ⟨6, rfl⟩, ⟨7, rfl⟩, trivial⟩, trivial⟩, ?_⟩
              refine VA.oneC (i := 3) (listed' := LB 28 15) (by kernel_rfl) rfl (o_call0 FO13 (tarryref14_Right.ok k t17 r18 v21 t4017 hA4018) rfl rfl (ltn rfl) (All_of (.cons (List.mem_of_getElem? (i := 1) rfl) .nil))) rfl (by kernel_rfl) ?_
              rintro _ _ _ ⟨rfl, rfl, rfl⟩
              refine ⟨⟨trivial, ⟨⟨0, rfl⟩, ⟨6, rfl⟩, ⟨7, rfl⟩, trivial⟩, trivial⟩, ?_⟩
              refine VA.va (i := 4) (listed' := LB 28 31) rfl (op_eqb Try.underlying4 rfl rfl (congrArg some hb4019) (ltn rfl)) rfl (by kernel_rfl) (by kernel_rfl) (by kernel_rfl) (by kernel_rfl) ⟨trivial, ⟨⟨0, rfl⟩, ⟨6, rfl⟩, ⟨7, rfl⟩, trivial⟩, trivial⟩ (fun _ _ _ h => h) ?_
              refine VA.va (i := 5) (listed' := LB 28 63) rfl (op_move rfl (ltn rfl)) rfl (by kernel_rfl) (by kernel_rfl) (by kernel_rfl) (by kernel_rfl) ⟨trivial, ⟨⟨0, rfl⟩, ⟨6, rfl⟩, ⟨7, rfl⟩, trivial⟩, trivial⟩ (fun _ _ _ h => h) ?_
              refine VA.va (i := 6) (listed' := LB 28 127) rfl (op_move rfl (ltn rfl)) rfl (by kernel_rfl) (by kernel_rfl) (by kernel_rfl) (by kernel_rfl) ⟨trivial, ⟨⟨0, rfl⟩, ⟨6, rfl⟩, ⟨7, rfl⟩, trivial⟩, trivial⟩ (fun _ _ _ h => h) ?_
              refine VA.va (i := 7) (listed' := LB 28 255) rfl (op_fieldAddr FI46_2 rfl (add_at _ _ _) (ltn rfl)) rfl (by kernel_rfl) (by kernel_rfl) (by kernel_rfl) (by kernel_rfl) ⟨trivial, ⟨⟨0, rfl⟩, ⟨6, rfl⟩, ⟨7, rfl⟩, trivial⟩, trivial⟩ (fun _ _ _ h => h) ?_
              refine VA.va (i := 8) (listed' := LB 28 511) rfl (op_load 0 1 rfl rfl TI30 rfl (by decide) (ltn rfl)) rfl (by kernel_rfl) (by kernel_rfl) (by kernel_rfl) (by kernel_rfl) ⟨trivial, ⟨⟨0, rfl⟩, ⟨6, rfl⟩, ⟨7, rfl⟩, trivial⟩, trivial⟩ (fun _ _ _ h => h) ?_
              refine VA.va (i := 9) (listed' := LB 28 1023) rfl (op_cmp rfl rfl (congrArg some hb4021) (ltn rfl)) rfl (by kernel_rfl) (by kernel_rfl) (by kernel_rfl) (by kernel_rfl) ⟨trivial, ⟨⟨0, rfl⟩, ⟨6, rfl⟩, ⟨7, rfl⟩, trivial⟩, trivial⟩ (fun _ _ _ h => h) ?_
              refine VA.va (i := 10) (listed' := LB 28 2047) rfl (op_pick rfl rfl (ltn rfl)) rfl (by kernel_rfl) (by kernel_rfl) (by kernel_rfl) (by kernel_rfl) ⟨trivial, ⟨⟨0, rfl⟩, ⟨6, rfl⟩, ⟨7, rfl⟩, trivial⟩, trivial⟩ (fun _ _ _ h => h) ?_
              refine VA.va (i := 11) (listed' := LB 28 4095) rfl (op_move rfl (ltn rfl)) rfl (by kernel_rfl) (by kernel_rfl) (by kernel_rfl) (by kernel_rfl) ⟨trivial, ⟨⟨0, rfl⟩, ⟨6, rfl⟩, ⟨7, rfl⟩, trivial⟩, trivial⟩ (fun _ _ _ h => h) ?_
              refine VA.va (i := 12) (listed' := LB 28 8191) rfl (op_move rfl (ltn rfl)) rfl (by kernel_rfl) (by kernel_rfl) (by kernel_rfl) (by kernel_rfl) ⟨trivial, ⟨⟨0, rfl⟩, ⟨6, rfl⟩, ⟨7, rfl⟩, trivial⟩, trivial⟩ (fun _ _ _ h => h) ?_
              refine VA.va (i := 13) (listed' := LB 28 16383) rfl (op_fieldAddr FI46_1 rfl (add_at _ _ _) (ltn rfl)) rfl (by kernel_rfl) (by kernel_rfl) (by kernel_rfl) (by kernel_rfl) ⟨trivial, ⟨⟨0, rfl⟩, ⟨6, rfl⟩, ⟨7, rfl⟩, trivial⟩, trivial⟩ (fun _ _ _ h => h) ?_
              refine VA.va (i := 14) (listed' := LB 28 32767) rfl (op_load 0 1 rfl rfl TI3 rfl (by decide) (ltn rfl)) rfl (by kernel_rfl) (by kernel_rfl) (by kernel_rfl) (by kernel_rfl) ⟨trivial, ⟨⟨0, rfl⟩, ⟨6, rfl⟩, ⟨7, rfl⟩, trivial⟩, trivial⟩ (fun _ _ _ h => h) ?_
              refine VA.va (i := 15) (listed' := LB 28 65535) rfl (op_cmp rfl rfl (congrArg some hb4023) (ltn rfl)) rfl (by kernel_rfl) (by kernel_rfl) (by kernel_rfl) (by kernel_rfl) ⟨trivial, ⟨⟨0, rfl⟩, ⟨6, rfl⟩, ⟨7, rfl⟩, trivial⟩, trivial⟩ (fun _ _ _ h => h) ?_
              refine VA.va (i := 16) (listed' := LB 28 131071) rfl (op_pick rfl rfl (ltn rfl)) rfl (by kernel_rfl) (by kernel_rfl) (by kernel_rfl) (by kernel_rfl) ⟨trivial, ⟨⟨0, rfl⟩, ⟨6, rfl⟩, ⟨7, rfl⟩, trivial⟩, trivial⟩ (fun _ _ _ h => h) ?_
              refine VA.va (i := 17) (listed' := LB 28 262143) rfl (op_move rfl (ltn rfl)) rfl (by kernel_rfl) (by kernel_rfl) (by kernel_rfl) (by kernel_rfl) ⟨trivial, ⟨⟨0, rfl⟩, ⟨6, rfl⟩, ⟨7, rfl⟩, trivial⟩, trivial⟩ (fun _ _ _ h => h) ?_
              refine VA.va (i := 18) (listed' := LB 28 524287) rfl (op_load 1 2 rfl rfl TI25 rfl (fun h => absurd h (by decide)) (ltn rfl)) rfl (by kernel_rfl) (by kernel_rfl) (by kernel_rfl) (by kernel_rfl) ⟨trivial, ⟨⟨0, rfl⟩, ⟨6, rfl⟩, ⟨7, rfl⟩, trivial⟩, trivial⟩ (fun _ _ _ h => h) ?_
              refine VA.va (i := 19) (listed' := LB 28 1048575) rfl (op_fieldAddr FI46_0 rfl (add_at _ _ _) (ltn rfl)) rfl (by kernel_rfl) (by kernel_rfl) (by kernel_rfl) (by kernel_rfl) ⟨trivial, ⟨⟨0, rfl⟩, ⟨6, rfl⟩, ⟨7, rfl⟩, trivial⟩, trivial⟩ (fun _ _ _ h => h) ?_
              refine VA.va (i := 20) (listed' := LB 28 2097151) rfl (op_load 0 2 rfl rfl TI25 rfl (fun h => absurd h (by decide)) (ltn rfl)) rfl (by kernel_rfl) (by kernel_rfl) (by kernel_rfl) (by kernel_rfl) ⟨trivial, ⟨⟨0, rfl⟩, ⟨6, rfl⟩, ⟨7, rfl⟩, trivial⟩, trivial⟩ (fun _ _ _ h => h) ?_
              refine VA.oneC (i := 21) (listed' := LB 28 4194303) (by kernel_rfl) rfl (o_call_b0 FO14 (tarryref14_Like.ok k t1021 r1022 t3850 r3851 v1027 v3856 true hA4026) rfl rfl (ltn rfl) (All_of (.cons (.inl (List.mem_of_getElem? (i := 0) rfl)) (.cons (.inr (.inl ⟨_, List.mem_of_getElem? (i := 0) rfl, rfl⟩)) .nil))) (by rintro _ _ _ ⟨rfl, rfl, rfl⟩; rfl)) rfl (by kernel_rfl) ?_
              rintro _ _ _ ⟨rfl, rfl, rfl⟩
              refine ⟨⟨trivial, ⟨⟨0, rfl⟩, ⟨6, rfl⟩, ⟨7, rfl⟩, trivial⟩, trivial⟩, ?_⟩
              refine VA.va (i := 22) (listed' := LB 28 8388607) rfl (op_not rfl rfl (ltn rfl)) rfl (by kernel_rfl) (by kernel_rfl) (by kernel_rfl) (by kernel_rfl) ⟨trivial, ⟨⟨0, rfl⟩, ⟨6, rfl⟩, ⟨7, rfl⟩, trivial⟩, trivial⟩ (fun _ _ _ h => h) ?_
              refine VA.va (i := 23) (listed' := LB 28 16777215) rfl (op_pick rfl rfl (ltn rfl)) rfl (by kernel_rfl) (by kernel_rfl) (by kernel_rfl) (by kernel_rfl) ⟨trivial, ⟨⟨0, rfl⟩, ⟨6, rfl⟩, ⟨7, rfl⟩, trivial⟩, trivial⟩ (fun _ _ _ h => h) ?_
              refine VA.va (i := 24) (listed' := LB 28 33554431) rfl (op_move rfl (ltn rfl)) rfl (by kernel_rfl) (by kernel_rfl) (by kernel_rfl) (by kernel_rfl) ⟨trivial, ⟨⟨0, rfl⟩, ⟨6, rfl⟩, ⟨7, rfl⟩, trivial⟩, trivial⟩ (fun _ _ _ h => h) ?_
              refine VA.oneC (i := 25) (listed' := LB 28 67108863) (by kernel_rfl) rfl (o_call0 FO9 (tarrylaw14_alive.ok k true hA4029) rfl rfl (ltn rfl) (All_of .nil)) rfl (by kernel_rfl) ?_
              rintro _ _ _ ⟨rfl, rfl, rfl⟩
              refine ⟨⟨trivial, ⟨⟨0, rfl⟩, ⟨6, rfl⟩, ⟨7, rfl⟩, trivial⟩, trivial⟩, ?_⟩
              refine VA.va (i := 26) (listed' := LB 28 134217727) rfl (op_not rfl rfl (ltn rfl)) rfl (by kernel_rfl) (by kernel_rfl) (by kernel_rfl) (by kernel_rfl) ⟨trivial, ⟨⟨0, rfl⟩, ⟨6, rfl⟩, ⟨7, rfl⟩, trivial⟩, trivial⟩ (fun _ _ _ h => h) ?_
              refine VA.va (i := 27) (listed' := LB 28 268435455) rfl (op_pick rfl rfl (ltn rfl)) rfl (by kernel_rfl) (by kernel_rfl) (by kernel_rfl) (by kernel_rfl) ⟨trivial, ⟨⟨0, rfl⟩, ⟨6, rfl⟩, ⟨7, rfl⟩, trivial⟩, trivial⟩ (fun _ _ _ h => h) ?_
              refine VA.done (by kernel_rfl) ?_
              exact VN.meet0  [1, 2, 3, 4, 5, 7] [1, 2, 3] trivial ⟨rfl, ⟨rfl, rfl, rfl, rfl, rfl, rfl, rfl, rfl, rfl, rfl, rfl, rfl, rfl, rfl, rfl, rfl, trivial⟩, ⟨⟨1, rfl⟩, trivial⟩, rfl, by decide, rfl, by decide⟩
            intro _
            refine VC.cond_f rfl ?_
            refine VC.skip ?_
            refine VN.then ?_
            refine VC.seq ?_
            refine VC.join1 (fun (q8164 : Bool) => ⟨224, [(1, .int .i64 a1), (2, .int .i64 a2), (3, .int .i64 a3), (4, .int .i64 a4), (5, .pointer (some ⟨g2, 0, none⟩)), (10, .bool false), (14, .pointer (some ⟨g1185, 0, none⟩)), (15, .pointer (some ⟨g1186, 0, none⟩)), (16, .int .i64 t1181), (17, .pointer (some ⟨g1223, 0, none⟩)), (18, .int .i64 t1221), (19, .pointer (some ⟨g1496, 0, none⟩)), (20, v1495), (21, .int .i64 t1490), (22, .pointer (some ⟨g1497, 0, none⟩)), (94, .bool q8164)], [.row v21 4 (r18.map enc33)], [(g1497, 25, [.int .i64 0, .slice none 0 0]), (g1496, 25, [.int .i64 t1487, v1493]), (g1223, 34, [.int .i64 t1217, .int .i64 t1218, .int .i64 t1219, .int .i64 t1220]), (g1186, 34, [.int .i64 t1177, .int .i64 t1178, .int .i64 t1179, .int .i64 t1180]), (g1185, 25, [.int .i64 t1175, v1184]), (g2, 25, [.int .i64 t17, v21])], [(v1495, 34, 4, r1489.map enc33), (v1493, 34, 4, r1488.map enc33), (v1184, 34, 4, r1176.map enc33)]⟩) (fun (q8164 : Bool) => tarrylaw14_OutboxGoes.j14 k a1 a2 a3 a4 r1176 r1488 r1489 r18 t1175 t1177 t1178 t1179 t1180 t1181 t1217 t1218 t1219 t1220 t1221 t1487 t1490 t17 q8164 = some r1) ?_ ?_
            · refine VC.region ?_
              refine VL.va (op_load 5 2 rfl rfl TI25 rfl (fun h => absurd h (by decide)) (ltn rfl)) rfl ?_
              replace h := Option.bind_eq_some_iff.1 h
              obtain ⟨t8161, hA8162, h⟩ := h
              refine VL.sC (o_call0 FO13 (tarryref14_Right.ok k t17 r18 v21 t8161 hA8162) rfl rfl (ltn rfl) (All_of (.cons (List.mem_of_getElem? (i := 0) rfl) .nil))) rfl ?_
              rintro _ _ _ ⟨rfl, rfl, rfl⟩
              by_cases c8163 : t8161 = true
              · rw [if_pos c8163] at h
                obtain rfl := c8163
                refine VL.va (op_not rfl rfl (ltn rfl)) rfl ?_
                refine VL.done ?_
                refine VN.meet1 false [0, 1, 2, 3, 4, 5] [1, 0, 2] h ⟨rfl, ⟨rfl, rfl, rfl, rfl, rfl, rfl, rfl, rfl, rfl, rfl, rfl, rfl, rfl, rfl, rfl, rfl, trivial⟩, ⟨⟨0, rfl⟩, trivial⟩, rfl, by decide, rfl, by decide⟩
              · rw [if_neg c8163] at h
                obtain rfl := Bool.eq_false_iff.2 c8163
                refine VL.va (op_not rfl rfl (ltn rfl)) rfl ?_
                refine VL.done ?_
                refine VN.meet1 true [0, 1, 2, 3, 4, 5] [1, 0, 2] h ⟨rfl, ⟨rfl, rfl, rfl, rfl, rfl, rfl, rfl, rfl, rfl, rfl, rfl, rfl, rfl, rfl, rfl, rfl, trivial⟩, ⟨⟨0, rfl⟩, trivial⟩, rfl, by decide, rfl, by decide⟩
            clear h
            intro q8164 h
            unfold tarrylaw14_OutboxGoes.j14 at h
            by_cases c8165 : q8164 = true
            · rw [if_pos c8165] at h
              obtain rfl := c8165
              refine VC.cond_t rfl ?_
              refine VC.seq ?_
              refine VC.region ?_
              refine VL.va (op_move rfl (ltn rfl)) rfl ?_
              refine VL.letter ((t1181 == 1)) fun b8185 hb8185 => ?_
              refine VL.va (op_cmp rfl rfl (congrArg some hb8185) (ltn rfl)) rfl ?_
              refine VL.va (op_move rfl (ltn rfl)) rfl ?_
              by_cases c8186 : t1181 = 1
              · rw [if_pos c8186] at h
                obtain rfl : b8185 = true := hb8185.symm.trans (beq_iff_eq.2 c8186)
                refine VL.va (op_move rfl (ltn rfl)) rfl ?_
                refine VL.letter ((t1221 == 1)) fun b8187 hb8187 => ?_
                refine VL.va (op_cmp rfl rfl (congrArg some hb8187) (ltn rfl)) rfl ?_
                refine VL.va (op_pick rfl rfl (ltn rfl)) rfl ?_
                refine VL.va (op_move rfl (ltn rfl)) rfl ?_
                by_cases c8188 : t1221 = 1
                · rw [if_pos c8188] at h
                  obtain rfl : b8187 = true := hb8187.symm.trans (beq_iff_eq.2 c8188)
                  refine VL.va (op_move rfl (ltn rfl)) rfl ?_
                  refine VL.letter ((t1490 == 1)) fun b8189 hb8189 => ?_
                  refine VL.va (op_cmp rfl rfl (congrArg some hb8189) (ltn rfl)) rfl ?_
                  refine VL.va (op_pick rfl rfl (ltn rfl)) rfl ?_
                  refine VL.va (op_move rfl (ltn rfl)) rfl ?_
                  by_cases c8190 : t1490 = 1
                  · rw [if_pos c8190] at h
                    obtain rfl : b8189 = true := hb8189.symm.trans (beq_iff_eq.2 c8190)
                    refine VL.va (op_load 4 2 rfl rfl TI25 rfl (fun h => absurd h (by decide)) (ltn rfl)) rfl ?_
                    refine VL.va (op_load 0 2 rfl rfl TI25 rfl (fun h => absurd h (by decide)) (ltn rfl)) rfl ?_
                    refine VL.nilFact' 4 ?_
                    replace h := Option.bind_eq_some_iff.1 h
                    obtain ⟨t8192, hA8193, h⟩ := h
                    refine VL.sC (o_call_b0 FO14 (tarryref14_Like.ok k t1175 r1176 0 [] v1184 (.slice none 0 0) t8192 hA8193) rfl rfl (ltn rfl) (All_of (.cons (.inr (.inl ⟨_, List.mem_of_getElem? (i := 2) rfl, rfl⟩)) (.cons (.inl (List.mem_of_getElem? (i := 0) rfl)) .nil))) (by rintro _ _ _ ⟨rfl, rfl, rfl⟩; rfl)) rfl ?_
                    rintro _ _ _ ⟨rfl, rfl, rfl⟩
                    refine VL.va (op_pick rfl rfl (ltn rfl)) rfl ?_
                    refine VL.va (op_move rfl (ltn rfl)) rfl ?_
                    by_cases c8194 : t8192 = true
                    · rw [if_pos c8194] at h
                      obtain rfl := c8194
                      refine VL.va (op_load 1 2 rfl rfl TI25 rfl (fun h => absurd h (by decide)) (ltn rfl)) rfl ?_
                      refine VL.va (op_load 0 2 rfl rfl TI25 rfl (fun h => absurd h (by decide)) (ltn rfl)) rfl ?_
                      refine VL.nilFact' 4 ?_
                      replace h := Option.bind_eq_some_iff.1 h
                      obtain ⟨t8196, hA8197, h⟩ := h
                      refine VL.sC (o_call_b0 FO14 (tarryref14_Like.ok k t1487 r1488 0 [] v1493 (.slice none 0 0) t8196 hA8197) rfl rfl (ltn rfl) (All_of (.cons (.inr (.inl ⟨_, List.mem_of_getElem? (i := 1) rfl, rfl⟩)) (.cons (.inl (List.mem_of_getElem? (i := 0) rfl)) .nil))) (by rintro _ _ _ ⟨rfl, rfl, rfl⟩; rfl)) rfl ?_
                      rintro _ _ _ ⟨rfl, rfl, rfl⟩
                      refine VL.va (op_pick rfl rfl (ltn rfl)) rfl ?_
                      refine VL.va (op_move rfl (ltn rfl)) rfl ?_
                      by_cases c8198 : t8196 = true
                      · rw [if_pos c8198] at h
                        obtain rfl := c8198
                        refine VL.va (op_load 3 4 rfl rfl TI34 rfl (fun h => absurd h (by decide)) (ltn rfl)) rfl ?_
                        refine VL.va (op_build (vals := []) (vcs := []) (cells := [.int .i64 0, .int .i64 0, .int .i64 0, .int .i64 0]) SI34 rfl .nil (by kernel_rfl) (ltn rfl)) rfl ?_
                        refine VL.letter ((((t1177 == 0) && ((t1178 == 0) && ((t1179 == 0) && (t1180 == 0)))))) fun b8199 hb8199 => ?_
                        refine VL.va (op_eqS rfl rfl EG34 (EQ34 t1177 t1178 t1179 t1180 0 0 0 0) hb8199 (ltn rfl)) rfl ?_
                        refine VL.va (op_pick rfl rfl (ltn rfl)) rfl ?_
                        refine VL.va (op_move rfl (ltn rfl)) rfl ?_
                        by_cases c8200 : (((t1177 == 0) && ((t1178 == 0) && ((t1179 == 0) && (t1180 == 0))))) = true
                        · rw [if_pos c8200] at h
                          obtain rfl : b8199 = true := hb8199.symm.trans (c8200)
                          refine VL.va (op_load 2 4 rfl rfl TI34 rfl (fun h => absurd h (by decide)) (ltn rfl)) rfl ?_
                          refine VL.va (op_build (vals := []) (vcs := []) (cells := [.int .i64 0, .int .i64 0, .int .i64 0, .int .i64 0]) SI34 rfl .nil (by kernel_rfl) (ltn rfl)) rfl ?_
                          refine VL.letter ((((t1217 == 0) && ((t1218 == 0) && ((t1219 == 0) && (t1220 == 0)))))) fun b8201 hb8201 => ?_
                          refine VL.va (op_eqS rfl rfl EG34 (EQ34 t1217 t1218 t1219 t1220 0 0 0 0) hb8201 (ltn rfl)) rfl ?_
                          refine VL.va (op_pick rfl rfl (ltn rfl)) rfl ?_
                          refine VL.va (op_move rfl (ltn rfl)) rfl ?_
                          by_cases c8202 : (((t1217 == 0) && ((t1218 == 0) && ((t1219 == 0) && (t1220 == 0))))) = true
                          · rw [if_pos c8202] at h
                            obtain rfl : b8201 = true := hb8201.symm.trans (c8202)
                            refine VL.va (op_move rfl (ltn rfl)) rfl ?_
                            refine VL.va (op_len_own (m := r1489.length) 0 lenm Try.underlying23 rfl rfl (ltn rfl)) rfl ?_
                            refine VL.letter (((r1489.length : Int) == 0)) fun b8203 hb8203 => ?_
                            refine VL.va (op_cmp rfl rfl (congrArg some hb8203) (ltn rfl)) rfl ?_
                            refine VL.va (op_pick rfl rfl (ltn rfl)) rfl ?_
                            refine VL.va (op_assign rfl (ltn rfl)) rfl ?_
                            refine VL.done ?_
                            refine VN.then ?_
                            refine VC.ret ?_
                            refine VR.then ?_
                            obtain rfl := Option.some.inj h
                            subst hb8203
                            exact VR.fn (rs := [.tmp 10]) [] [] [] rfl (.tmp rfl .nil) ⟨rfl, rfl, rfl⟩ trivial rfl (by decide)
                          · rw [if_neg c8202] at h
                            obtain rfl : b8201 = false := hb8201.symm.trans (Bool.eq_false_iff.2 c8202)
                            refine VL.un rfl rfl (ltn rfl) ?_
                            refine VL.un rfl rfl (ltn rfl) ?_
                            refine VL.un rfl rfl (ltn rfl) ?_
                            refine VL.va (op_pick rfl rfl (ltn rfl)) rfl ?_
                            refine VL.va (op_assign rfl (ltn rfl)) rfl ?_
                            refine VL.done ?_
                            refine VN.then ?_
                            refine VC.ret ?_
                            refine VR.then ?_
                            cases h
                        · rw [if_neg c8200] at h
                          obtain rfl : b8199 = false := hb8199.symm.trans (Bool.eq_false_iff.2 c8200)
                          refine VL.un rfl rfl (ltn rfl) ?_
                          refine VL.un rfl rfl (ltn rfl) ?_
                          refine VL.un rfl rfl (ltn rfl) ?_
                          refine VL.va (op_pick rfl rfl (ltn rfl)) rfl ?_
                          refine VL.va (op_move rfl (ltn rfl)) rfl ?_
                          refine VL.un rfl rfl (ltn rfl) ?_
                          refine VL.un rfl rfl (ltn rfl) ?_
                          refine VL.un rfl rfl (ltn rfl) ?_
                          refine VL.va (op_pick rfl rfl (ltn rfl)) rfl ?_
                          refine VL.va (op_assign rfl (ltn rfl)) rfl ?_
                          refine VL.done ?_
                          refine VN.then ?_
                          refine VC.ret ?_
                          refine VR.then ?_
                          cases h
                      · rw [if_neg c8198] at h
                        obtain rfl := Bool.eq_false_iff.2 c8198
                        refine VL.un rfl rfl (ltn rfl) ?_
                        refine VL.un rfl rfl (ltn rfl) ?_
                        refine VL.un rfl rfl (ltn rfl) ?_
                        refine VL.va (op_pick rfl rfl (ltn rfl)) rfl ?_
                        refine VL.va (op_move rfl (ltn rfl)) rfl ?_
                        refine VL.un rfl rfl (ltn rfl) ?_
                        refine VL.un rfl rfl (ltn rfl) ?_
                        refine VL.un rfl rfl (ltn rfl) ?_
                        refine VL.va (op_pick rfl rfl (ltn rfl)) rfl ?_
                        refine VL.va (op_move rfl (ltn rfl)) rfl ?_
                        refine VL.un rfl rfl (ltn rfl) ?_
                        refine VL.un rfl rfl (ltn rfl) ?_
                        refine VL.un rfl rfl (ltn rfl) ?_
                        refine VL.va (op_pick rfl rfl (ltn rfl)) rfl ?_
                        refine VL.va (op_assign rfl (ltn rfl)) rfl ?_
                        refine VL.done ?_
                        refine VN.then ?_
                        refine VC.ret ?_
                        refine VR.then ?_
                        cases h
                    · rw [if_neg c8194] at h
                      obtain rfl := Bool.eq_false_iff.2 c8194
                      refine VL.un rfl rfl (ltn rfl) ?_
                      refine VL.un rfl rfl (ltn rfl) ?_
                      refine VL.un rfl rfl (ltn rfl) ?_
                      refine VL.va (op_pick rfl rfl (ltn rfl)) rfl ?_
                      refine VL.va (op_move rfl (ltn rfl)) rfl ?_
                      refine VL.un rfl rfl (ltn rfl) ?_
                      refine VL.un rfl rfl (ltn rfl) ?_
                      refine VL.un rfl rfl (ltn rfl) ?_
                      refine VL.va (op_pick rfl rfl (ltn rfl)) rfl ?_
                      refine VL.va (op_move rfl (ltn rfl)) rfl ?_
                      refine VL.un rfl rfl (ltn rfl) ?_
                      refine VL.un rfl rfl (ltn rfl) ?_
                      refine VL.un rfl rfl (ltn rfl) ?_
                      refine VL.va (op_pick rfl rfl (ltn rfl)) rfl ?_
                      refine VL.va (op_move rfl (ltn rfl)) rfl ?_
                      refine VL.un rfl rfl (ltn rfl) ?_
                      refine VL.un rfl rfl (ltn rfl) ?_
                      refine VL.un rfl rfl (ltn rfl) ?_
                      refine VL.va (op_pick rfl rfl (ltn rfl)) rfl ?_
                      refine VL.va (op_assign rfl (ltn rfl)) rfl ?_
                      refine VL.done ?_
                      refine VN.then ?_
                      refine VC.ret ?_
                      refine VR.then ?_
                      cases h
                  · rw [if_neg c8190] at h
                    obtain rfl : b8189 = false := hb8189.symm.trans (beq_eq_false_iff_ne.2 c8190)
                    refine VL.un rfl rfl (ltn rfl) ?_
                    refine VL.un rfl rfl (ltn rfl) ?_
                    refine VL.un rfl rfl (ltn rfl) ?_
                    refine VL.va (op_pick rfl rfl (ltn rfl)) rfl ?_
                    refine VL.va (op_move rfl (ltn rfl)) rfl ?_
                    refine VL.un rfl rfl (ltn rfl) ?_
                    refine VL.un rfl rfl (ltn rfl) ?_
                    refine VL.un rfl rfl (ltn rfl) ?_
                    refine VL.va (op_pick rfl rfl (ltn rfl)) rfl ?_
                    refine VL.va (op_move rfl (ltn rfl)) rfl ?_
                    refine VL.un rfl rfl (ltn rfl) ?_
                    refine VL.un rfl rfl (ltn rfl) ?_
                    refine VL.un rfl rfl (ltn rfl) ?_
                    refine VL.va (op_pick rfl rfl (ltn rfl)) rfl ?_
                    refine VL.va (op_move rfl (ltn rfl)) rfl ?_
                    refine VL.un rfl rfl (ltn rfl) ?_
                    refine VL.un rfl rfl (ltn rfl) ?_
                    refine VL.un rfl rfl (ltn rfl) ?_
                    refine VL.va (op_pick rfl rfl (ltn rfl)) rfl ?_
                    refine VL.va (op_move rfl (ltn rfl)) rfl ?_
                    refine VL.un rfl rfl (ltn rfl) ?_
                    refine VL.un rfl rfl (ltn rfl) ?_
                    refine VL.un rfl rfl (ltn rfl) ?_
                    refine VL.va (op_pick rfl rfl (ltn rfl)) rfl ?_
                    refine VL.va (op_assign rfl (ltn rfl)) rfl ?_
                    refine VL.done ?_
                    refine VN.then ?_
                    refine VC.ret ?_
                    refine VR.then ?_
                    cases h
                · rw [if_neg c8188] at h
                  obtain rfl : b8187 = false := hb8187.symm.trans (beq_eq_false_iff_ne.2 c8188)
                  refine VL.un rfl rfl (ltn rfl) ?_
                  refine VL.un rfl rfl (ltn rfl) ?_
                  refine VL.va (op_pick rfl rfl (ltn rfl)) rfl ?_
                  refine VL.va (op_move rfl (ltn rfl)) rfl ?_
                  refine VL.un rfl rfl (ltn rfl) ?_
                  refine VL.un rfl rfl (ltn rfl) ?_
                  refine VL.un rfl rfl (ltn rfl) ?_
                  refine VL.va (op_pick rfl rfl (ltn rfl)) rfl ?_
                  refine VL.va (op_move rfl (ltn rfl)) rfl ?_
                  refine VL.un rfl rfl (ltn rfl) ?_
                  refine VL.un rfl rfl (ltn rfl) ?_
                  refine VL.un rfl rfl (ltn rfl) ?_
                  refine VL.va (op_pick rfl rfl (ltn rfl)) rfl ?_
                  refine VL.va (op_move rfl (ltn rfl)) rfl ?_
                  refine VL.un rfl rfl (ltn rfl) ?_
                  refine VL.un rfl rfl (ltn rfl) ?_
                  refine VL.un rfl rfl (ltn rfl) ?_
                  refine VL.va (op_pick rfl rfl (ltn rfl)) rfl ?_
                  refine VL.va (op_move rfl (ltn rfl)) rfl ?_
                  refine VL.un rfl rfl (ltn rfl) ?_
                  refine VL.un rfl rfl (ltn rfl) ?_
                  refine VL.un rfl rfl (ltn rfl) ?_
                  refine VL.va (op_pick rfl rfl (ltn rfl)) rfl ?_
                  refine VL.va (op_move rfl (ltn rfl)) rfl ?_
                  refine VL.un rfl rfl (ltn rfl) ?_
                  refine VL.un rfl rfl (ltn rfl) ?_
                  refine VL.un rfl rfl (ltn rfl) ?_
                  refine VL.va (op_pick rfl rfl (ltn rfl)) rfl ?_
                  refine VL.va (op_assign rfl (ltn rfl)) rfl ?_
                  refine VL.done ?_
                  refine VN.then ?_
                  refine VC.ret ?_
                  refine VR.then ?_
                  cases h
              · rw [if_neg c8186] at h
                obtain rfl : b8185 = false := hb8185.symm.trans (beq_eq_false_iff_ne.2 c8186)
                refine VL.un rfl rfl (ltn rfl) ?_
                refine VL.un rfl rfl (ltn rfl) ?_
                refine VL.va (op_pick rfl rfl (ltn rfl)) rfl ?_
                refine VL.va (op_move rfl (ltn rfl)) rfl ?_
                refine VL.un rfl rfl (ltn rfl) ?_
                refine VL.un rfl rfl (ltn rfl) ?_
                refine VL.va (op_pick rfl rfl (ltn rfl)) rfl ?_
                refine VL.va (op_move rfl (ltn rfl)) rfl ?_
                refine VL.un rfl rfl (ltn rfl) ?_
                refine VL.un rfl rfl (ltn rfl) ?_
                refine VL.un rfl rfl (ltn rfl) ?_
                refine VL.va (op_pick rfl rfl (ltn rfl)) rfl ?_
                refine VL.va (op_move rfl (ltn rfl)) rfl ?_
                refine VL.un rfl rfl (ltn rfl) ?_
                refine VL.un rfl rfl (ltn rfl) ?_
                refine VL.un rfl rfl (ltn rfl) ?_
                refine VL.va (op_pick rfl rfl (ltn rfl)) rfl ?_
                refine VL.va (op_move rfl (ltn rfl)) rfl ?_
                refine VL.un rfl rfl (ltn rfl) ?_
                refine VL.un rfl rfl (ltn rfl) ?_
                refine VL.un rfl rfl (ltn rfl) ?_
                refine VL.va (op_pick rfl rfl (ltn rfl)) rfl ?_
                refine VL.va (op_move rfl (ltn rfl)) rfl ?_
                refine VL.un rfl rfl (ltn rfl) ?_
                refine VL.un rfl rfl (ltn rfl) ?_
                refine VL.un rfl rfl (ltn rfl) ?_
                refine VL.va (op_pick rfl rfl (ltn rfl)) rfl ?_
                refine VL.va (op_move rfl (ltn rfl)) rfl ?_
                refine VL.un rfl rfl (ltn rfl) ?_
                refine VL.un rfl rfl (ltn rfl) ?_
                refine VL.un rfl rfl (ltn rfl) ?_
                refine VL.va (op_pick rfl rfl (ltn rfl)) rfl ?_
                refine VL.va (op_assign rfl (ltn rfl)) rfl ?_
                refine VL.done ?_
                refine VN.then ?_
                refine VC.ret ?_
                refine VR.then ?_
                cases h
            · rw [if_neg c8165] at h
              obtain rfl := Bool.eq_false_iff.2 c8165
              refine VC.cond_f rfl ?_
              refine VC.skip ?_
              refine VN.then ?_
              refine VC.seq ?_
              refine VC.region ?_
              refine VL.va (op_load 5 2 rfl rfl TI25 rfl (fun h => absurd h (by decide)) (ltn rfl)) rfl ?_
              refine VL.va (op_move rfl (ltn rfl)) rfl ?_
              refine VL.va (op_move rfl (ltn rfl)) rfl ?_
              replace h := Option.bind_eq_some_iff.1 h
              obtain ⟨⟨t8204, t8205, t8206, t8207⟩, hA8208, h⟩ := h
              dsimp only at h
              refine VL.sC (o_call0 FO15 (tarryref14_Find.ok k t17 r18 a1 a2 v21 t8204 t8205 t8206 t8207 hA8208) rfl rfl (ltn rfl) (All_of (.cons (List.mem_of_getElem? (i := 0) rfl) .nil))) rfl ?_
              rintro _ _ _ ⟨rfl, rfl, rfl⟩
              refine VL.sG (o_alloc Z34 ZL34 (ltn rfl)) rfl ?_
              intro g8209
              refine VL.step1 (o_store 0 4 rfl rfl rfl TI34 (.agg (.of rfl)) rfl (len rfl)) rfl ?_
              refine VL.done ?_
              refine VN.then ?_
              refine VC.join0 (⟨224, [(3, .int .i64 a3), (4, .int .i64 a4), (5, .pointer (some ⟨g2, 0, none⟩)), (10, .bool false), (14, .pointer (some ⟨g1185, 0, none⟩)), (15, .pointer (some ⟨g1186, 0, none⟩)), (16, .int .i64 t1181), (19, .pointer (some ⟨g1496, 0, none⟩)), (20, v1495), (21, .int .i64 t1490), (22, .pointer (some ⟨g1497, 0, none⟩))], [.row v21 4 (r18.map enc33)], [(g1497, 25, [.int .i64 0, .slice none 0 0]), (g1496, 25, [.int .i64 t1487, v1493]), (g1186, 34, [.int .i64 t1177, .int .i64 t1178, .int .i64 t1179, .int .i64 t1180]), (g1185, 25, [.int .i64 t1175, v1184]), (g2, 25, [.int .i64 t17, v21])], [(v1495, 34, 4, r1489.map enc33), (v1493, 34, 4, r1488.map enc33), (v1184, 34, 4, r1176.map enc33)]⟩) (tarrylaw14_OutboxGoes.j26 k a3 a4 r1176 r1488 r1489 r18 t1175 t1177 t1178 t1179 t1180 t1181 t1487 t1490 t17 = some r1) ?_ ?_
              · refine VC.seq ?_
                refine VC.region ?_
                refine VL.va (op_load 3 4 rfl rfl TI34 rfl (fun h => absurd h (by decide)) (ltn rfl)) rfl ?_
                refine VL.va (op_load 0 4 rfl rfl TI34 rfl (fun h => absurd h (by decide)) (ltn rfl)) rfl ?_
                refine VL.letter ((!(((t1217 == t8204) && ((t1218 == t8205) && ((t1219 == t8206) && (t1220 == t8207))))))) fun b10759 hb10759 => ?_
                refine VL.va (op_neS rfl rfl EG34 (EQ34 t1217 t1218 t1219 t1220 t8204 t8205 t8206 t8207) hb10759 (ltn rfl)) rfl ?_
                refine VL.va (op_move rfl (ltn rfl)) rfl ?_
                by_cases c10760 : (((t1217 == t8204) && ((t1218 == t8205) && ((t1219 == t8206) && (t1220 == t8207))))) = true
                · rw [if_pos c10760] at h
                  obtain rfl : b10759 = false := hb10759.symm.trans (not_t c10760)
                  refine VL.va (op_fieldAddr FI34_0 rfl (add_at _ _ _) (ltn rfl)) rfl ?_
                  refine VL.va (op_load 0 1 rfl rfl TI3 rfl (by decide) (ltn rfl)) rfl ?_
                  refine VL.letter (decide (t8204 > 0)) fun b10761 hb10761 => ?_
                  refine VL.va (op_cmp rfl rfl (congrArg some hb10761) (ltn rfl)) rfl ?_
                  refine VL.va (op_move rfl (ltn rfl)) rfl ?_
                  by_cases c10762 : t8204 > 0
                  · rw [if_pos c10762] at h
                    obtain rfl : b10761 = true := hb10761.symm.trans (decide_eq_true c10762)
                    refine VL.va (op_move rfl (ltn rfl)) rfl ?_
                    refine VL.letter ((t1221 != 0)) fun b10763 hb10763 => ?_
                    refine VL.va (op_cmp rfl rfl (congrArg some hb10763) (ltn rfl)) rfl ?_
                    refine VL.va (op_pick rfl rfl (ltn rfl)) rfl ?_
                    refine VL.va (op_pick rfl rfl (ltn rfl)) rfl ?_
                    refine VL.va (op_move rfl (ltn rfl)) rfl ?_
                    by_cases c10764 : t1221 = 0
                    · rw [if_pos c10764] at h
                      obtain rfl : b10763 = false := hb10763.symm.trans (bne_eq_false_iff_eq.2 c10764)
                      refine VL.va (op_fieldAddr FI34_0 rfl (add_at _ _ _) (ltn rfl)) rfl ?_
                      refine VL.va (op_load 0 1 rfl rfl TI3 rfl (by decide) (ltn rfl)) rfl ?_
                      refine VL.letter ((t8204 == 0)) fun b10765 hb10765 => ?_
                      refine VL.va (op_cmp rfl rfl (congrArg some hb10765) (ltn rfl)) rfl ?_
                      refine VL.va (op_move rfl (ltn rfl)) rfl ?_
                      by_cases c10766 : t8204 = 0
                      · rw [if_pos c10766] at h
                        obtain rfl : b10765 = true := hb10765.symm.trans (beq_iff_eq.2 c10766)
                        refine VL.va (op_move rfl (ltn rfl)) rfl ?_
                        refine VL.letter ((t1221 != 8)) fun b10767 hb10767 => ?_
                        refine VL.va (op_cmp rfl rfl (congrArg some hb10767) (ltn rfl)) rfl ?_
                        refine VL.va (op_pick rfl rfl (ltn rfl)) rfl ?_
                        refine VL.va (op_pick rfl rfl (ltn rfl)) rfl ?_
                        refine VL.done ?_
                        refine VN.then ?_
                        by_cases c10768 : t1221 = 8
                        · rw [if_pos c10768] at h
                          obtain rfl : b10767 = false := hb10767.symm.trans (bne_eq_false_iff_eq.2 c10768)
                          refine VC.cond_f rfl ?_
                          refine VC.skip ?_
                          refine VN.meet0  [1, 2, 4, 5, 6] [0, 1, 2] h ⟨rfl, ⟨rfl, rfl, rfl, rfl, rfl, rfl, rfl, rfl, rfl, rfl, rfl, trivial⟩, ⟨⟨0, rfl⟩, trivial⟩, rfl, by decide, rfl, by decide⟩
                        · rw [if_neg c10768] at h
                          obtain rfl : b10767 = true := hb10767.symm.trans (bne_iff_ne.2 c10768)
                          refine VC.cond_t rfl ?_
                          refine VC.seq ?_
                          refine VC.region ?_
                          refine VL.va (op_assign rfl (ltn rfl)) rfl ?_
                          refine VL.done ?_
                          refine VN.then ?_
                          refine VC.ret ?_
                          refine VR.then ?_
                          cases h
                      · rw [if_neg c10766] at h
                        obtain rfl : b10765 = false := hb10765.symm.trans (beq_eq_false_iff_ne.2 c10766)
                        refine VL.un rfl rfl (ltn rfl) ?_
                        refine VL.un rfl rfl (ltn rfl) ?_
                        refine VL.va (op_pick rfl rfl (ltn rfl)) rfl ?_
                        refine VL.va (op_pick rfl rfl (ltn rfl)) rfl ?_
                        refine VL.done ?_
                        refine VN.then ?_
                        refine VC.cond_f rfl ?_
                        refine VC.skip ?_
                        refine VN.meet0  [1, 2, 4, 5, 6] [0, 1, 2] h ⟨rfl, ⟨rfl, rfl, rfl, rfl, rfl, rfl, rfl, rfl, rfl, rfl, rfl, trivial⟩, ⟨⟨0, rfl⟩, trivial⟩, rfl, by decide, rfl, by decide⟩
                    · rw [if_neg c10764] at h
                      obtain rfl : b10763 = true := hb10763.symm.trans (bne_iff_ne.2 c10764)
                      refine VL.un rfl rfl (ltn rfl) ?_
                      refine VL.un rfl rfl (ltn rfl) ?_
                      refine VL.un rfl rfl (ltn rfl) ?_
                      refine VL.un rfl rfl (ltn rfl) ?_
                      refine VL.un rfl rfl (ltn rfl) ?_
                      refine VL.un rfl rfl (ltn rfl) ?_
                      refine VL.un rfl rfl (ltn rfl) ?_
                      refine VL.va (op_pick rfl rfl (ltn rfl)) rfl ?_
                      refine VL.done ?_
                      refine VN.then ?_
                      refine VC.cond_t rfl ?_
                      refine VC.seq ?_
                      refine VC.region ?_
                      refine VL.va (op_assign rfl (ltn rfl)) rfl ?_
                      refine VL.done ?_
                      refine VN.then ?_
                      refine VC.ret ?_
                      refine VR.then ?_
                      cases h
                  · rw [if_neg c10762] at h
                    obtain rfl : b10761 = false := hb10761.symm.trans (decide_eq_false c10762)
                    refine VL.un rfl rfl (ltn rfl) ?_
                    refine VL.un rfl rfl (ltn rfl) ?_
                    refine VL.va (op_pick rfl rfl (ltn rfl)) rfl ?_
                    refine VL.va (op_pick rfl rfl (ltn rfl)) rfl ?_
                    refine VL.va (op_move rfl (ltn rfl)) rfl ?_
                    refine VL.va (op_fieldAddr FI34_0 rfl (add_at _ _ _) (ltn rfl)) rfl ?_
                    refine VL.va (op_load 0 1 rfl rfl TI3 rfl (by decide) (ltn rfl)) rfl ?_
                    refine VL.letter ((t8204 == 0)) fun b10769 hb10769 => ?_
                    refine VL.va (op_cmp rfl rfl (congrArg some hb10769) (ltn rfl)) rfl ?_
                    refine VL.va (op_move rfl (ltn rfl)) rfl ?_
                    by_cases c10770 : t8204 = 0
                    · rw [if_pos c10770] at h
                      obtain rfl : b10769 = true := hb10769.symm.trans (beq_iff_eq.2 c10770)
                      refine VL.va (op_move rfl (ltn rfl)) rfl ?_
                      refine VL.letter ((t1221 != 8)) fun b10771 hb10771 => ?_
                      refine VL.va (op_cmp rfl rfl (congrArg some hb10771) (ltn rfl)) rfl ?_
                      refine VL.va (op_pick rfl rfl (ltn rfl)) rfl ?_
                      refine VL.va (op_pick rfl rfl (ltn rfl)) rfl ?_
                      refine VL.done ?_
                      refine VN.then ?_
                      by_cases c10772 : t1221 = 8
                      · rw [if_pos c10772] at h
                        obtain rfl : b10771 = false := hb10771.symm.trans (bne_eq_false_iff_eq.2 c10772)
                        refine VC.cond_f rfl ?_
                        refine VC.skip ?_
                        refine VN.meet0  [1, 2, 4, 5, 6] [0, 1, 2] h ⟨rfl, ⟨rfl, rfl, rfl, rfl, rfl, rfl, rfl, rfl, rfl, rfl, rfl, trivial⟩, ⟨⟨0, rfl⟩, trivial⟩, rfl, by decide, rfl, by decide⟩
                      · rw [if_neg c10772] at h
                        obtain rfl : b10771 = true := hb10771.symm.trans (bne_iff_ne.2 c10772)
                        refine VC.cond_t rfl ?_
                        refine VC.seq ?_
                        refine VC.region ?_
                        refine VL.va (op_assign rfl (ltn rfl)) rfl ?_
                        refine VL.done ?_
                        refine VN.then ?_
                        refine VC.ret ?_
                        refine VR.then ?_
                        cases h
                    · rw [if_neg c10770] at h
                      obtain rfl : b10769 = false := hb10769.symm.trans (beq_eq_false_iff_ne.2 c10770)
                      refine VL.un rfl rfl (ltn rfl) ?_
                      refine VL.un rfl rfl (ltn rfl) ?_
                      refine VL.va (op_pick rfl rfl (ltn rfl)) rfl ?_
                      refine VL.va (op_pick rfl rfl (ltn rfl)) rfl ?_
                      refine VL.done ?_
                      refine VN.then ?_
                      refine VC.cond_f rfl ?_
                      refine VC.skip ?_
                      refine VN.meet0  [1, 2, 4, 5, 6] [0, 1, 2] h ⟨rfl, ⟨rfl, rfl, rfl, rfl, rfl, rfl, rfl, rfl, rfl, rfl, rfl, trivial⟩, ⟨⟨0, rfl⟩, trivial⟩, rfl, by decide, rfl, by decide⟩
                · rw [if_neg c10760] at h
                  obtain rfl : b10759 = true := hb10759.symm.trans (not_f c10760)
                  refine VL.un rfl rfl (ltn rfl) ?_
                  refine VL.un rfl rfl (ltn rfl) ?_
                  refine VL.un rfl rfl (ltn rfl) ?_
                  refine VL.un rfl rfl (ltn rfl) ?_
                  refine VL.un rfl rfl (ltn rfl) ?_
                  refine VL.un rfl rfl (ltn rfl) ?_
                  refine VL.un rfl rfl (ltn rfl) ?_
                  refine VL.va (op_pick rfl rfl (ltn rfl)) rfl ?_
                  refine VL.va (op_move rfl (ltn rfl)) rfl ?_
                  refine VL.un rfl rfl (ltn rfl) ?_
                  refine VL.un rfl rfl (ltn rfl) ?_
                  refine VL.un rfl rfl (ltn rfl) ?_
                  refine VL.un rfl rfl (ltn rfl) ?_
                  refine VL.un rfl rfl (ltn rfl) ?_
                  refine VL.un rfl rfl (ltn rfl) ?_
                  refine VL.un rfl rfl (ltn rfl) ?_
                  refine VL.va (op_pick rfl rfl (ltn rfl)) rfl ?_
                  refine VL.done ?_
                  refine VN.then ?_
                  refine VC.cond_t rfl ?_
                  refine VC.seq ?_
                  refine VC.region ?_
                  refine VL.va (op_assign rfl (ltn rfl)) rfl ?_
                  refine VL.done ?_
                  refine VN.then ?_
                  refine VC.ret ?_
                  refine VR.then ?_
                  cases h
              clear h
              intro  h
              unfold tarrylaw14_OutboxGoes.j26 at h
              refine VC.join0 (⟨224, [(4, .int .i64 a4), (5, .pointer (some ⟨g2, 0, none⟩)), (10, .bool false), (14, .pointer (some ⟨g1185, 0, none⟩)), (15, .pointer (some ⟨g1186, 0, none⟩)), (16, .int .i64 t1181), (22, .pointer (some ⟨g1497, 0, none⟩))], [.row v21 4 (r18.map enc33)], [(g1497, 25, [.int .i64 0, .slice none 0 0]), (g1186, 34, [.int .i64 t1177, .int .i64 t1178, .int .i64 t1179, .int .i64 t1180]), (g1185, 25, [.int .i64 t1175, v1184]), (g2, 25, [.int .i64 t17, v21])], [(v1184, 34, 4, r1176.map enc33)]⟩) (tarrylaw14_OutboxGoes.j28 k a4 r1176 r18 t1175 t1177 t1178 t1179 t1180 t1181 t17 = some r1) ?_ ?_
              · refine VC.seq ?_
                refine VC.region ?_
                refine VL.va (op_move rfl (ltn rfl)) rfl ?_
                refine VL.letter (decide (a3 < 0)) fun b11167 hb11167 => ?_
                refine VL.va (op_cmp rfl rfl (congrArg some hb11167) (ltn rfl)) rfl ?_
                refine VL.va (op_move rfl (ltn rfl)) rfl ?_
                by_cases c11168 : a3 < 0
                · rw [if_pos c11168] at h
                  obtain rfl : b11167 = true := hb11167.symm.trans (decide_eq_true c11168)
                  refine VL.un rfl rfl (ltn rfl) ?_
                  refine VL.un rfl rfl (ltn rfl) ?_
                  refine VL.va (op_pick rfl rfl (ltn rfl)) rfl ?_
                  refine VL.done ?_
                  refine VN.then ?_
                  refine VC.cond_t rfl ?_
                  refine VC.seq ?_
                  refine VC.region ?_
                  refine VL.va (op_move rfl (ltn rfl)) rfl ?_
                  refine VL.letter ((t1490 != 1)) fun b11176 hb11176 => ?_
                  refine VL.va (op_cmp rfl rfl (congrArg some hb11176) (ltn rfl)) rfl ?_
                  refine VL.va (op_move rfl (ltn rfl)) rfl ?_
                  by_cases c11177 : t1490 = 1
                  · rw [if_pos c11177] at h
                    obtain rfl : b11176 = false := hb11176.symm.trans (bne_eq_false_iff_eq.2 c11177)
                    refine VL.va (op_load 1 2 rfl rfl TI25 rfl (fun h => absurd h (by decide)) (ltn rfl)) rfl ?_
                    refine VL.va (op_load 0 2 rfl rfl TI25 rfl (fun h => absurd h (by decide)) (ltn rfl)) rfl ?_
                    refine VL.nilFact' 4 ?_
                    replace h := Option.bind_eq_some_iff.1 h
                    obtain ⟨t11179, hA11180, h⟩ := h
                    refine VL.sC (o_call_b0 FO14 (tarryref14_Like.ok k t1487 r1488 0 [] v1493 (.slice none 0 0) t11179 hA11180) rfl rfl (ltn rfl) (All_of (.cons (.inr (.inl ⟨_, List.mem_of_getElem? (i := 1) rfl, rfl⟩)) (.cons (.inl (List.mem_of_getElem? (i := 0) rfl)) .nil))) (by rintro _ _ _ ⟨rfl, rfl, rfl⟩; rfl)) rfl ?_
                    rintro _ _ _ ⟨rfl, rfl, rfl⟩
                    by_cases c11181 : t11179 = true
                    · rw [if_pos c11181] at h
                      obtain rfl := c11181
                      refine VL.va (op_not rfl rfl (ltn rfl)) rfl ?_
                      refine VL.va (op_pick rfl rfl (ltn rfl)) rfl ?_
                      refine VL.va (op_move rfl (ltn rfl)) rfl ?_
                      refine VL.va (op_move rfl (ltn rfl)) rfl ?_
                      refine VL.va (op_len_own (m := r1489.length) 0 lenm Try.underlying23 rfl rfl (ltn rfl)) rfl ?_
                      refine VL.letter (((r1489.length : Int) != 0)) fun b11182 hb11182 => ?_
                      refine VL.va (op_cmp rfl rfl (congrArg some hb11182) (ltn rfl)) rfl ?_
                      refine VL.va (op_pick rfl rfl (ltn rfl)) rfl ?_
                      refine VL.done ?_
                      refine VN.then ?_
                      by_cases c11183 : (r1489.length : Int) = 0
                      · rw [if_pos c11183] at h
                        obtain rfl : b11182 = false := hb11182.symm.trans (bne_eq_false_iff_eq.2 c11183)
                        refine VC.cond_f rfl ?_
                        refine VC.skip ?_
                        refine VN.meet0  [0, 2, 3, 4] [2] h ⟨rfl, ⟨rfl, rfl, rfl, rfl, rfl, rfl, rfl, trivial⟩, ⟨⟨1, rfl⟩, trivial⟩, rfl, by decide, rfl, by decide⟩
                      · rw [if_neg c11183] at h
                        obtain rfl : b11182 = true := hb11182.symm.trans (bne_iff_ne.2 c11183)
                        refine VC.cond_t rfl ?_
                        refine VC.seq ?_
                        refine VC.region ?_
                        refine VL.va (op_assign rfl (ltn rfl)) rfl ?_
                        refine VL.done ?_
                        refine VN.then ?_
                        refine VC.ret ?_
                        refine VR.then ?_
                        cases h
                    · rw [if_neg c11181] at h
                      obtain rfl := Bool.eq_false_iff.2 c11181
                      refine VL.va (op_not rfl rfl (ltn rfl)) rfl ?_
                      refine VL.va (op_pick rfl rfl (ltn rfl)) rfl ?_
                      refine VL.va (op_move rfl (ltn rfl)) rfl ?_
                      refine VL.un rfl rfl (ltn rfl) ?_
                      refine VL.un rfl rfl (ltn rfl) ?_
                      refine VL.un rfl rfl (ltn rfl) ?_
                      refine VL.va (op_pick rfl rfl (ltn rfl)) rfl ?_
                      refine VL.done ?_
                      refine VN.then ?_
                      refine VC.cond_t rfl ?_
                      refine VC.seq ?_
                      refine VC.region ?_
                      refine VL.va (op_assign rfl (ltn rfl)) rfl ?_
                      refine VL.done ?_
                      refine VN.then ?_
                      refine VC.ret ?_
                      refine VR.then ?_
                      cases h
                  · rw [if_neg c11177] at h
                    obtain rfl : b11176 = true := hb11176.symm.trans (bne_iff_ne.2 c11177)
                    refine VL.un rfl rfl (ltn rfl) ?_
                    refine VL.un rfl rfl (ltn rfl) ?_
                    refine VL.un rfl rfl (ltn rfl) ?_
                    refine VL.un rfl rfl (ltn rfl) ?_
                    refine VL.va (op_pick rfl rfl (ltn rfl)) rfl ?_
                    refine VL.va (op_move rfl (ltn rfl)) rfl ?_
                    refine VL.un rfl rfl (ltn rfl) ?_
                    refine VL.un rfl rfl (ltn rfl) ?_
                    refine VL.un rfl rfl (ltn rfl) ?_
                    refine VL.va (op_pick rfl rfl (ltn rfl)) rfl ?_
                    refine VL.done ?_
                    refine VN.then ?_
                    refine VC.cond_t rfl ?_
                    refine VC.seq ?_
                    refine VC.region ?_
                    refine VL.va (op_assign rfl (ltn rfl)) rfl ?_
                    refine VL.done ?_
                    refine VN.then ?_
                    refine VC.ret ?_
                    refine VR.then ?_
                    cases h
                · rw [if_neg c11168] at h
                  obtain rfl : b11167 = false := hb11167.symm.trans (decide_eq_false c11168)
                  refine VL.va (op_move rfl (ltn rfl)) rfl ?_
                  refine VL.letter (decide (a3 > 1099511627776)) fun b11184 hb11184 => ?_
                  refine VL.va (op_cmp rfl rfl (congrArg some hb11184) (ltn rfl)) rfl ?_
                  refine VL.va (op_pick rfl rfl (ltn rfl)) rfl ?_
                  refine VL.done ?_
                  refine VN.then ?_
                  by_cases c11185 : a3 > 1099511627776
                  · rw [if_pos c11185] at h
                    obtain rfl : b11184 = true := hb11184.symm.trans (decide_eq_true c11185)
                    refine VC.cond_t rfl ?_
                    refine VC.seq ?_
                    refine VC.region ?_
                    refine VL.va (op_move rfl (ltn rfl)) rfl ?_
                    refine VL.letter ((t1490 != 1)) fun b11193 hb11193 => ?_
                    refine VL.va (op_cmp rfl rfl (congrArg some hb11193) (ltn rfl)) rfl ?_
                    refine VL.va (op_move rfl (ltn rfl)) rfl ?_
                    by_cases c11194 : t1490 = 1
                    · rw [if_pos c11194] at h
                      obtain rfl : b11193 = false := hb11193.symm.trans (bne_eq_false_iff_eq.2 c11194)
                      refine VL.va (op_load 1 2 rfl rfl TI25 rfl (fun h => absurd h (by decide)) (ltn rfl)) rfl ?_
                      refine VL.va (op_load 0 2 rfl rfl TI25 rfl (fun h => absurd h (by decide)) (ltn rfl)) rfl ?_
                      refine VL.nilFact' 4 ?_
                      replace h := Option.bind_eq_some_iff.1 h
                      obtain ⟨t11196, hA11197, h⟩ := h
                      refine VL.sC (o_call_b0 FO14 (tarryref14_Like.ok k t1487 r1488 0 [] v1493 (.slice none 0 0) t11196 hA11197) rfl rfl (ltn rfl) (All_of (.cons (.inr (.inl ⟨_, List.mem_of_getElem? (i := 1) rfl, rfl⟩)) (.cons (.inl (List.mem_of_getElem? (i := 0) rfl)) .nil))) (by rintro _ _ _ ⟨rfl, rfl, rfl⟩; rfl)) rfl ?_
                      rintro _ _ _ ⟨rfl, rfl, rfl⟩
                      by_cases c11198 : t11196 = true
                      · rw [if_pos c11198] at h
                        obtain rfl := c11198
                        refine VL.va (op_not rfl rfl (ltn rfl)) rfl ?_
                        refine VL.va (op_pick rfl rfl (ltn rfl)) rfl ?_
                        refine VL.va (op_move rfl (ltn rfl)) rfl ?_
                        refine VL.va (op_move rfl (ltn rfl)) rfl ?_
                        refine VL.va (op_len_own (m := r1489.length) 0 lenm Try.underlying23 rfl rfl (ltn rfl)) rfl ?_
                        refine VL.letter (((r1489.length : Int) != 0)) fun b11199 hb11199 => ?_
                        refine VL.va (op_cmp rfl rfl (congrArg some hb11199) (ltn rfl)) rfl ?_
                        refine VL.va (op_pick rfl rfl (ltn rfl)) rfl ?_
                        refine VL.done ?_
                        refine VN.then ?_
                        by_cases c11200 : (r1489.length : Int) = 0
                        · rw [if_pos c11200] at h
                          obtain rfl : b11199 = false := hb11199.symm.trans (bne_eq_false_iff_eq.2 c11200)
                          refine VC.cond_f rfl ?_
                          refine VC.skip ?_
                          refine VN.meet0  [0, 2, 3, 4] [2] h ⟨rfl, ⟨rfl, rfl, rfl, rfl, rfl, rfl, rfl, trivial⟩, ⟨⟨1, rfl⟩, trivial⟩, rfl, by decide, rfl, by decide⟩
                        · rw [if_neg c11200] at h
                          obtain rfl : b11199 = true := hb11199.symm.trans (bne_iff_ne.2 c11200)
                          refine VC.cond_t rfl ?_
                          refine VC.seq ?_
                          refine VC.region ?_
                          refine VL.va (op_assign rfl (ltn rfl)) rfl ?_
                          refine VL.done ?_
                          refine VN.then ?_
                          refine VC.ret ?_
                          refine VR.then ?_
                          cases h
                      · rw [if_neg c11198] at h
                        obtain rfl := Bool.eq_false_iff.2 c11198
                        refine VL.va (op_not rfl rfl (ltn rfl)) rfl ?_
                        refine VL.va (op_pick rfl rfl (ltn rfl)) rfl ?_
                        refine VL.va (op_move rfl (ltn rfl)) rfl ?_
                        refine VL.un rfl rfl (ltn rfl) ?_
                        refine VL.un rfl rfl (ltn rfl) ?_
                        refine VL.un rfl rfl (ltn rfl) ?_
                        refine VL.va (op_pick rfl rfl (ltn rfl)) rfl ?_
                        refine VL.done ?_
                        refine VN.then ?_
                        refine VC.cond_t rfl ?_
                        refine VC.seq ?_
                        refine VC.region ?_
                        refine VL.va (op_assign rfl (ltn rfl)) rfl ?_
                        refine VL.done ?_
                        refine VN.then ?_
                        refine VC.ret ?_
                        refine VR.then ?_
                        cases h
                    · rw [if_neg c11194] at h
                      obtain rfl : b11193 = true := hb11193.symm.trans (bne_iff_ne.2 c11194)
                      refine VL.un rfl rfl (ltn rfl) ?_
                      refine VL.un rfl rfl (ltn rfl) ?_
                      refine VL.un rfl rfl (ltn rfl) ?_
                      refine VL.un rfl rfl (ltn rfl) ?_
                      refine VL.va (op_pick rfl rfl (ltn rfl)) rfl ?_
                      refine VL.va (op_move rfl (ltn rfl)) rfl ?_
                      refine VL.un rfl rfl (ltn rfl) ?_
                      refine VL.un rfl rfl (ltn rfl) ?_
                      refine VL.un rfl rfl (ltn rfl) ?_
                      refine VL.va (op_pick rfl rfl (ltn rfl)) rfl ?_
                      refine VL.done ?_
                      refine VN.then ?_
                      refine VC.cond_t rfl ?_
                      refine VC.seq ?_
                      refine VC.region ?_
                      refine VL.va (op_assign rfl (ltn rfl)) rfl ?_
                      refine VL.done ?_
                      refine VN.then ?_
                      refine VC.ret ?_
                      refine VR.then ?_
                      cases h
                  · rw [if_neg c11185] at h
                    obtain rfl : b11184 = false := hb11184.symm.trans (decide_eq_false c11185)
                    refine VC.cond_f rfl ?_
                    refine VC.letter ((t1490 != 0)) fun b11201 hb11201 => ?_
                    by_cases c11202 : t1490 = 0
                    · rw [if_pos c11202] at h
                      obtain rfl : b11201 = false := hb11201.symm.trans (bne_eq_false_iff_eq.2 c11202)
                      replace h := Option.bind_eq_some_iff.1 h
                      obtain ⟨⟨t11203, r11204⟩, hA11205, h⟩ := h
                      dsimp only at h
                      replace h := Option.bind_eq_some_iff.1 h
                      obtain ⟨t11208, hA11209, h⟩ := h
                      by_cases c11210 : t11208 = true
                      · rw [if_pos c11210] at h
                        obtain rfl := c11210
                        replace h := Option.bind_eq_some_iff.1 h
                        obtain ⟨r11211, hA11212, h⟩ := h
                        replace h := Option.bind_eq_some_iff.1 h
                        obtain ⟨t11215, hA11216, h⟩ := h
                        by_cases c11217 : t11215 = true
                        · rw [if_pos c11217] at h
                          obtain rfl := c11217
                          refine VC.join0 (⟨224, [(4, .int .i64 a4), (5, .pointer (some ⟨g2, 0, none⟩)), (10, .bool false), (14, .pointer (some ⟨g1185, 0, none⟩)), (15, .pointer (some ⟨g1186, 0, none⟩)), (16, .int .i64 t1181), (22, .pointer (some ⟨g1497, 0, none⟩)), (191, .bool false)], [.row v21 4 (r18.map enc33)], [(g1497, 25, [.int .i64 0, .slice none 0 0]), (g1186, 34, [.int .i64 t1177, .int .i64 t1178, .int .i64 t1179, .int .i64 t1180]), (g1185, 25, [.int .i64 t1175, v1184]), (g2, 25, [.int .i64 t17, v21])], [(v1184, 34, 4, r1176.map enc33)]⟩) (True) ?_ ?_
                          · refine VC.draw ⟨0, [], [], [(g1496, 25, [.int .i64 t1487, v1493]), (g2, 25, [.int .i64 t17, v21])], [(v1495, 34, 4, r1489.map enc33)]⟩ (by kernel_rfl) rfl (by kernel_rfl) (n := 18) (listed := LB 18 0) ?_
                            refine VA.va (i := 0) (listed' := LB 18 1) rfl (op_move rfl (ltn rfl)) rfl (by kernel_rfl) (by kernel_rfl) (by kernel_rfl) (by kernel_rfl) ⟨trivial, ⟨⟨1, rfl⟩, ⟨4, rfl⟩, trivial⟩, ⟨⟨0, rfl⟩, trivial⟩⟩ (fun _ _ _ h => h) ?_
                            refine VA.va (i := 1) (listed' := LB 18 3) rfl (op_cmp rfl rfl (congrArg some hb11201) (ltn rfl)) rfl (by kernel_rfl) (by kernel_rfl) (by kernel_rfl) (by kernel_rfl) ⟨trivial, ⟨⟨1, rfl⟩, ⟨4, rfl⟩, trivial⟩, ⟨⟨0, rfl⟩, trivial⟩⟩ (fun _ _ _ h => h) ?_
                            refine VA.va (i := 2) (listed' := LB 18 7) rfl (op_move rfl (ltn rfl)) rfl (by kernel_rfl) (by kernel_rfl) (by kernel_rfl) (by kernel_rfl) ⟨trivial, ⟨⟨1, rfl⟩, ⟨4, rfl⟩, trivial⟩, ⟨⟨0, rfl⟩, trivial⟩⟩ (fun _ _ _ h => h) ?_
                            refine VA.va (i := 3) (listed' := LB 18 15) rfl (op_load 0 2 rfl rfl TI25 rfl (fun h => absurd h (by decide)) (ltn rfl)) rfl (by kernel_rfl) (by kernel_rfl) (by kernel_rfl) (by kernel_rfl) ⟨trivial, ⟨⟨1, rfl⟩, ⟨4, rfl⟩, trivial⟩, ⟨⟨0, rfl⟩, trivial⟩⟩ (fun _ _ _ h => h) ?_
                            refine VA.va (i := 4) (listed' := LB 18 31) rfl (op_load 1 2 rfl rfl TI25 rfl (fun h => absurd h (by decide)) (ltn rfl)) rfl (by kernel_rfl) (by kernel_rfl) (by kernel_rfl) (by kernel_rfl) ⟨trivial, ⟨⟨1, rfl⟩, ⟨4, rfl⟩, trivial⟩, ⟨⟨0, rfl⟩, trivial⟩⟩ (fun _ _ _ h => h) ?_
                            refine VA.va (i := 5) (listed' := LB 18 63) rfl (op_move rfl (ltn rfl)) rfl (by kernel_rfl) (by kernel_rfl) (by kernel_rfl) (by kernel_rfl) ⟨trivial, ⟨⟨1, rfl⟩, ⟨4, rfl⟩, trivial⟩, ⟨⟨0, rfl⟩, trivial⟩⟩ (fun _ _ _ h => h) ?_
                            refine VA.oneC (i := 6) (listed' := LB 18 127) (by kernel_rfl) rfl (o_call0 FO16 (tarryref14_Tell.ok k t17 r18 a3 v21 t11203 r11204 hA11205) rfl rfl (ltn rfl) (All_of (.cons (List.mem_of_getElem? (i := 0) rfl) .nil))) rfl (by kernel_rfl) ?_
                            rintro _ _ _ ⟨v11207, rfl, rfl, rfl⟩
                            refine ⟨⟨trivial, ⟨⟨1, rfl⟩, ⟨4, rfl⟩, trivial⟩, ⟨⟨1, rfl⟩, trivial⟩⟩, ?_⟩
                            refine VA.oneC (i := 7) (listed' := LB 18 255) (by kernel_rfl) rfl (o_call_b0 FO14 (tarryref14_Like.ok k t1487 r1488 t11203 r11204 v1493 v11207 true hA11209) rfl rfl (ltn rfl) (All_of (.cons (.inr (.inl ⟨_, List.mem_of_getElem? (i := 2) rfl, rfl⟩)) (.cons (.inr (.inl ⟨_, List.mem_of_getElem? (i := 0) rfl, rfl⟩)) .nil))) (by rintro _ _ _ ⟨rfl, rfl, rfl⟩; rfl)) rfl (by kernel_rfl) ?_
                            rintro _ _ _ ⟨rfl, rfl, rfl⟩
                            refine ⟨⟨trivial, ⟨⟨1, rfl⟩, ⟨4, rfl⟩, trivial⟩, ⟨⟨1, rfl⟩, trivial⟩⟩, ?_⟩
                            refine VA.va (i := 8) (listed' := LB 18 511) rfl (op_not rfl rfl (ltn rfl)) rfl (by kernel_rfl) (by kernel_rfl) (by kernel_rfl) (by kernel_rfl) ⟨trivial, ⟨⟨1, rfl⟩, ⟨4, rfl⟩, trivial⟩, ⟨⟨1, rfl⟩, trivial⟩⟩ (fun _ _ _ h => h) ?_
                            refine VA.va (i := 9) (listed' := LB 18 1023) rfl (op_pick rfl rfl (ltn rfl)) rfl (by kernel_rfl) (by kernel_rfl) (by kernel_rfl) (by kernel_rfl) ⟨trivial, ⟨⟨1, rfl⟩, ⟨4, rfl⟩, trivial⟩, ⟨⟨1, rfl⟩, trivial⟩⟩ (fun _ _ _ h => h) ?_
                            refine VA.va (i := 10) (listed' := LB 18 2047) rfl (op_move rfl (ltn rfl)) rfl (by kernel_rfl) (by kernel_rfl) (by kernel_rfl) (by kernel_rfl) ⟨trivial, ⟨⟨1, rfl⟩, ⟨4, rfl⟩, trivial⟩, ⟨⟨1, rfl⟩, trivial⟩⟩ (fun _ _ _ h => h) ?_
                            refine VA.va (i := 11) (listed' := LB 18 4095) rfl (op_move rfl (ltn rfl)) rfl (by kernel_rfl) (by kernel_rfl) (by kernel_rfl) (by kernel_rfl) ⟨trivial, ⟨⟨1, rfl⟩, ⟨4, rfl⟩, trivial⟩, ⟨⟨1, rfl⟩, trivial⟩⟩ (fun _ _ _ h => h) ?_
                            refine VA.va (i := 12) (listed' := LB 18 8191) rfl (op_load 1 2 rfl rfl TI25 rfl (fun h => absurd h (by decide)) (ltn rfl)) rfl (by kernel_rfl) (by kernel_rfl) (by kernel_rfl) (by kernel_rfl) ⟨trivial, ⟨⟨1, rfl⟩, ⟨4, rfl⟩, trivial⟩, ⟨⟨1, rfl⟩, trivial⟩⟩ (fun _ _ _ h => h) ?_
                            refine VA.va (i := 13) (listed' := LB 18 16383) rfl (op_move rfl (ltn rfl)) rfl (by kernel_rfl) (by kernel_rfl) (by kernel_rfl) (by kernel_rfl) ⟨trivial, ⟨⟨1, rfl⟩, ⟨4, rfl⟩, trivial⟩, ⟨⟨1, rfl⟩, trivial⟩⟩ (fun _ _ _ h => h) ?_
                            refine VA.oneC (i := 14) (listed' := LB 18 32767) (by kernel_rfl) rfl (o_call0 FO18 (tarryref14_Told.ok k t17 r18 a3 v21 r11211 hA11212) rfl rfl (ltn rfl) (All_of (.cons (List.mem_of_getElem? (i := 0) rfl) .nil))) rfl (by kernel_rfl) ?_
                            rintro v11214 _ _ ⟨_, rfl, rfl, rfl⟩
                            refine ⟨⟨trivial, ⟨⟨1, rfl⟩, ⟨4, rfl⟩, trivial⟩, ⟨⟨2, rfl⟩, trivial⟩⟩, ?_⟩
                            refine VA.oneC (i := 15) (listed' := LB 18 65535) (by kernel_rfl) rfl (o_call_b0 FO17 (tarryref14_Same.ok k r1489 r11211 v1495 v11214 true hA11216) rfl rfl (ltn rfl) (All_of (.cons (.inr (.inl ⟨_, List.mem_of_getElem? (i := 2) rfl, rfl⟩)) (.cons (.inr (.inl ⟨_, List.mem_of_getElem? (i := 0) rfl, rfl⟩)) .nil))) (by rintro _ _ _ ⟨rfl, rfl, rfl⟩; rfl)) rfl (by kernel_rfl) ?_
                            rintro _ _ _ ⟨rfl, rfl, rfl⟩
                            refine ⟨⟨trivial, ⟨⟨1, rfl⟩, ⟨4, rfl⟩, trivial⟩, ⟨⟨2, rfl⟩, trivial⟩⟩, ?_⟩
                            refine VA.va (i := 16) (listed' := LB 18 131071) rfl (op_not rfl rfl (ltn rfl)) rfl (by kernel_rfl) (by kernel_rfl) (by kernel_rfl) (by kernel_rfl) ⟨trivial, ⟨⟨1, rfl⟩, ⟨4, rfl⟩, trivial⟩, ⟨⟨2, rfl⟩, trivial⟩⟩ (fun _ _ _ h => h) ?_
                            refine VA.va (i := 17) (listed' := LB 18 262143) rfl (op_pick rfl rfl (ltn rfl)) rfl (by kernel_rfl) (by kernel_rfl) (by kernel_rfl) (by kernel_rfl) ⟨trivial, ⟨⟨1, rfl⟩, ⟨4, rfl⟩, trivial⟩, ⟨⟨2, rfl⟩, trivial⟩⟩ (fun _ _ _ h => h) ?_
                            refine VA.done (by kernel_rfl) ?_
                            exact VN.meet0  [0, 2, 3, 4] [4] trivial ⟨rfl, ⟨rfl, rfl, rfl, rfl, rfl, rfl, rfl, rfl, trivial⟩, ⟨⟨0, rfl⟩, trivial⟩, rfl, by decide, rfl, by decide⟩
                          intro _
                          refine VC.cond_f rfl ?_
                          refine VC.skip ?_
                          refine VN.meet0  [0, 1, 2, 3] [0] h ⟨rfl, ⟨rfl, rfl, rfl, rfl, rfl, rfl, rfl, trivial⟩, ⟨⟨0, rfl⟩, trivial⟩, rfl, by decide, rfl, by decide⟩
                        · rw [if_neg c11217] at h
                          obtain rfl := Bool.eq_false_iff.2 c11217
                          refine VC.join0 (⟨224, [(4, .int .i64 a4), (5, .pointer (some ⟨g2, 0, none⟩)), (10, .bool false), (14, .pointer (some ⟨g1185, 0, none⟩)), (15, .pointer (some ⟨g1186, 0, none⟩)), (16, .int .i64 t1181), (22, .pointer (some ⟨g1497, 0, none⟩)), (191, .bool true)], [.row v21 4 (r18.map enc33)], [(g1497, 25, [.int .i64 0, .slice none 0 0]), (g1186, 34, [.int .i64 t1177, .int .i64 t1178, .int .i64 t1179, .int .i64 t1180]), (g1185, 25, [.int .i64 t1175, v1184]), (g2, 25, [.int .i64 t17, v21])], [(v1184, 34, 4, r1176.map enc33)]⟩) (True) ?_ ?_
                          · refine VC.draw ⟨0, [], [], [(g1496, 25, [.int .i64 t1487, v1493]), (g2, 25, [.int .i64 t17, v21])], [(v1495, 34, 4, r1489.map enc33)]⟩ (by kernel_rfl) rfl (by kernel_rfl) (n := 18) (listed := LB 18 0) ?_
                            refine VA.va (i := 0) (listed' := LB 18 1) rfl (op_move rfl (ltn rfl)) rfl (by kernel_rfl) (by kernel_rfl) (by kernel_rfl) (by kernel_rfl) ⟨trivial, ⟨⟨1, rfl⟩, ⟨4, rfl⟩, trivial⟩, ⟨⟨0, rfl⟩, trivial⟩⟩ (fun _ _ _ h => h) ?_
                            refine VA.va (i := 1) (listed' := LB 18 3) rfl (op_cmp rfl rfl (congrArg some hb11201) (ltn rfl)) rfl (by kernel_rfl) (by kernel_rfl) (by kernel_rfl) (by kernel_rfl) ⟨trivial, ⟨⟨1, rfl⟩, ⟨4, rfl⟩, trivial⟩, ⟨⟨0, rfl⟩, trivial⟩⟩ (fun _ _ _ h => h) ?_
                            refine VA.va (i := 2) (listed' := LB 18 7) rfl (op_move rfl (ltn rfl)) rfl (by kernel_rfl) (by kernel_rfl) (by kernel_rfl) (by kernel_rfl) ⟨trivial, ⟨⟨1, rfl⟩, ⟨4, rfl⟩, trivial⟩, ⟨⟨0, rfl⟩, trivial⟩⟩ (fun _ _ _ h => h) ?_
                            refine VA.va (i := 3) (listed' := LB 18 15) rfl (op_load 0 2 rfl rfl TI25 rfl (fun h => absurd h (by decide)) (ltn rfl)) rfl (by kernel_rfl) (by kernel_rfl) (by kernel_rfl) (by kernel_rfl) ⟨trivial, ⟨⟨1, rfl⟩, ⟨4, rfl⟩, trivial⟩, ⟨⟨0, rfl⟩, trivial⟩⟩ (fun _ _ _ h => h) ?_
                            refine VA.va (i := 4) (listed' := LB 18 31) rfl (op_load 1 2 rfl rfl TI25 rfl (fun h => absurd h (by decide)) (ltn rfl)) rfl (by kernel_rfl) (by kernel_rfl) (by kernel_rfl) (by kernel_rfl) ⟨trivial, ⟨⟨1, rfl⟩, ⟨4, rfl⟩, trivial⟩, ⟨⟨0, rfl⟩, trivial⟩⟩ (fun _ _ _ h => h) ?_
                            refine VA.va (i := 5) (listed' := LB 18 63) rfl (op_move rfl (ltn rfl)) rfl (by kernel_rfl) (by kernel_rfl) (by kernel_rfl) (by kernel_rfl) ⟨trivial, ⟨⟨1, rfl⟩, ⟨4, rfl⟩, trivial⟩, ⟨⟨0, rfl⟩, trivial⟩⟩ (fun _ _ _ h => h) ?_
                            refine VA.oneC (i := 6) (listed' := LB 18 127) (by kernel_rfl) rfl (o_call0 FO16 (tarryref14_Tell.ok k t17 r18 a3 v21 t11203 r11204 hA11205) rfl rfl (ltn rfl) (All_of (.cons (List.mem_of_getElem? (i := 0) rfl) .nil))) rfl (by kernel_rfl) ?_
                            rintro _ _ _ ⟨v11207, rfl, rfl, rfl⟩
                            refine ⟨⟨trivial, ⟨⟨1, rfl⟩, ⟨4, rfl⟩, trivial⟩, ⟨⟨1, rfl⟩, trivial⟩⟩, ?_⟩
                            refine VA.oneC (i := 7) (listed' := LB 18 255) (by kernel_rfl) rfl (o_call_b0 FO14 (tarryref14_Like.ok k t1487 r1488 t11203 r11204 v1493 v11207 true hA11209) rfl rfl (ltn rfl) (All_of (.cons (.inr (.inl ⟨_, List.mem_of_getElem? (i := 2) rfl, rfl⟩)) (.cons (.inr (.inl ⟨_, List.mem_of_getElem? (i := 0) rfl, rfl⟩)) .nil))) (by rintro _ _ _ ⟨rfl, rfl, rfl⟩; rfl)) rfl (by kernel_rfl) ?_
                            rintro _ _ _ ⟨rfl, rfl, rfl⟩
                            refine ⟨⟨trivial, ⟨⟨1, rfl⟩, ⟨4, rfl⟩, trivial⟩, ⟨⟨1, rfl⟩, trivial⟩⟩, ?_⟩
                            refine VA.va (i := 8) (listed' := LB 18 511) rfl (op_not rfl rfl (ltn rfl)) rfl (by kernel_rfl) (by kernel_rfl) (by kernel_rfl) (by kernel_rfl) ⟨trivial, ⟨⟨1, rfl⟩, ⟨4, rfl⟩, trivial⟩, ⟨⟨1, rfl⟩, trivial⟩⟩ (fun _ _ _ h => h) ?_
                            refine VA.va (i := 9) (listed' := LB 18 1023) rfl (op_pick rfl rfl (ltn rfl)) rfl (by kernel_rfl) (by kernel_rfl) (by kernel_rfl) (by kernel_rfl) ⟨trivial, ⟨⟨1, rfl⟩, ⟨4, rfl⟩, trivial⟩, ⟨⟨1, rfl⟩, trivial⟩⟩ (fun _ _ _ h => h) ?_
                            refine VA.va (i := 10) (listed' := LB 18 2047) rfl (op_move rfl (ltn rfl)) rfl (by kernel_rfl) (by kernel_rfl) (by kernel_rfl) (by kernel_rfl) ⟨trivial, ⟨⟨1, rfl⟩, ⟨4, rfl⟩, trivial⟩, ⟨⟨1, rfl⟩, trivial⟩⟩ (fun _ _ _ h => h) ?_
                            refine VA.va (i := 11) (listed' := LB 18 4095) rfl (op_move rfl (ltn rfl)) rfl (by kernel_rfl) (by kernel_rfl) (by kernel_rfl) (by kernel_rfl) ⟨trivial, ⟨⟨1, rfl⟩, ⟨4, rfl⟩, trivial⟩, ⟨⟨1, rfl⟩, trivial⟩⟩ (fun _ _ _ h => h) ?_
                            refine VA.va (i := 12) (listed' := LB 18 8191) rfl (op_load 1 2 rfl rfl TI25 rfl (fun h => absurd h (by decide)) (ltn rfl)) rfl (by kernel_rfl) (by kernel_rfl) (by kernel_rfl) (by kernel_rfl) ⟨trivial, ⟨⟨1, rfl⟩, ⟨4, rfl⟩, trivial⟩, ⟨⟨1, rfl⟩, trivial⟩⟩ (fun _ _ _ h => h) ?_
                            refine VA.va (i := 13) (listed' := LB 18 16383) rfl (op_move rfl (ltn rfl)) rfl (by kernel_rfl) (by kernel_rfl) (by kernel_rfl) (by kernel_rfl) ⟨trivial, ⟨⟨1, rfl⟩, ⟨4, rfl⟩, trivial⟩, ⟨⟨1, rfl⟩, trivial⟩⟩ (fun _ _ _ h => h) ?_
                            refine VA.oneC (i := 14) (listed' := LB 18 32767) (by kernel_rfl) rfl (o_call0 FO18 (tarryref14_Told.ok k t17 r18 a3 v21 r11211 hA11212) rfl rfl (ltn rfl) (All_of (.cons (List.mem_of_getElem? (i := 0) rfl) .nil))) rfl (by kernel_rfl) ?_
                            rintro v11214 _ _ ⟨_, rfl, rfl, rfl⟩
                            refine ⟨⟨trivial, ⟨⟨1, rfl⟩, ⟨4, rfl⟩, trivial⟩, ⟨⟨2, rfl⟩, trivial⟩⟩, ?_⟩
                            refine VA.oneC (i := 15) (listed' := LB 18 65535) (by kernel_rfl) rfl (o_call_b0 FO17 (tarryref14_Same.ok k r1489 r11211 v1495 v11214 false hA11216) rfl rfl (ltn rfl) (All_of (.cons (.inr (.inl ⟨_, List.mem_of_getElem? (i := 2) rfl, rfl⟩)) (.cons (.inr (.inl ⟨_, List.mem_of_getElem? (i := 0) rfl, rfl⟩)) .nil))) (by rintro _ _ _ ⟨rfl, rfl, rfl⟩; rfl)) rfl (by kernel_rfl) ?_
                            rintro _ _ _ ⟨rfl, rfl, rfl⟩
                            refine ⟨⟨trivial, ⟨⟨1, rfl⟩, ⟨4, rfl⟩, trivial⟩, ⟨⟨2, rfl⟩, trivial⟩⟩, ?_⟩
                            refine VA.va (i := 16) (listed' := LB 18 131071) rfl (op_not rfl rfl (ltn rfl)) rfl (by kernel_rfl) (by kernel_rfl) (by kernel_rfl) (by kernel_rfl) ⟨trivial, ⟨⟨1, rfl⟩, ⟨4, rfl⟩, trivial⟩, ⟨⟨2, rfl⟩, trivial⟩⟩ (fun _ _ _ h => h) ?_
                            refine VA.va (i := 17) (listed' := LB 18 262143) rfl (op_pick rfl rfl (ltn rfl)) rfl (by kernel_rfl) (by kernel_rfl) (by kernel_rfl) (by kernel_rfl) ⟨trivial, ⟨⟨1, rfl⟩, ⟨4, rfl⟩, trivial⟩, ⟨⟨2, rfl⟩, trivial⟩⟩ (fun _ _ _ h => h) ?_
                            refine VA.done (by kernel_rfl) ?_
                            exact VN.meet0  [0, 2, 3, 4] [4] trivial ⟨rfl, ⟨rfl, rfl, rfl, rfl, rfl, rfl, rfl, rfl, trivial⟩, ⟨⟨0, rfl⟩, trivial⟩, rfl, by decide, rfl, by decide⟩
                          intro _
                          refine VC.cond_t rfl ?_
                          refine VC.seq ?_
                          refine VC.region ?_
                          refine VL.va (op_assign rfl (ltn rfl)) rfl ?_
                          refine VL.done ?_
                          refine VN.then ?_
                          refine VC.ret ?_
                          refine VR.then ?_
                          cases h
                      · rw [if_neg c11210] at h
                        obtain rfl := Bool.eq_false_iff.2 c11210
                        refine VC.join0 (⟨224, [(4, .int .i64 a4), (5, .pointer (some ⟨g2, 0, none⟩)), (10, .bool false), (14, .pointer (some ⟨g1185, 0, none⟩)), (15, .pointer (some ⟨g1186, 0, none⟩)), (16, .int .i64 t1181), (22, .pointer (some ⟨g1497, 0, none⟩)), (191, .bool true)], [.row v21 4 (r18.map enc33)], [(g1497, 25, [.int .i64 0, .slice none 0 0]), (g1186, 34, [.int .i64 t1177, .int .i64 t1178, .int .i64 t1179, .int .i64 t1180]), (g1185, 25, [.int .i64 t1175, v1184]), (g2, 25, [.int .i64 t17, v21])], [(v1184, 34, 4, r1176.map enc33)]⟩) (True) ?_ ?_
                        · refine VC.draw ⟨0, [], [], [(g1496, 25, [.int .i64 t1487, v1493]), (g2, 25, [.int .i64 t17, v21])], []⟩ (by kernel_rfl) rfl (by kernel_rfl) (n := 18) (listed := LB 18 0) ?_
                          refine VA.va (i := 0) (listed' := LB 18 1) rfl (op_move rfl (ltn rfl)) rfl (by kernel_rfl) (by kernel_rfl) (by kernel_rfl) (by kernel_rfl) ⟨trivial, ⟨⟨1, rfl⟩, ⟨4, rfl⟩, trivial⟩, trivial⟩ (fun _ _ _ h => h) ?_
                          refine VA.va (i := 1) (listed' := LB 18 3) rfl (op_cmp rfl rfl (congrArg some hb11201) (ltn rfl)) rfl (by kernel_rfl) (by kernel_rfl) (by kernel_rfl) (by kernel_rfl) ⟨trivial, ⟨⟨1, rfl⟩, ⟨4, rfl⟩, trivial⟩, trivial⟩ (fun _ _ _ h => h) ?_
                          refine VA.va (i := 2) (listed' := LB 18 7) rfl (op_move rfl (ltn rfl)) rfl (by kernel_rfl) (by kernel_rfl) (by kernel_rfl) (by kernel_rfl) ⟨trivial, ⟨⟨1, rfl⟩, ⟨4, rfl⟩, trivial⟩, trivial⟩ (fun _ _ _ h => h) ?_
                          refine VA.va (i := 3) (listed' := LB 18 15) rfl (op_load 0 2 rfl rfl TI25 rfl (fun h => absurd h (by decide)) (ltn rfl)) rfl (by kernel_rfl) (by kernel_rfl) (by kernel_rfl) (by kernel_rfl) ⟨trivial, ⟨⟨1, rfl⟩, ⟨4, rfl⟩, trivial⟩, trivial⟩ (fun _ _ _ h => h) ?_
                          refine VA.va (i := 4) (listed' := LB 18 31) rfl (op_load 1 2 rfl rfl TI25 rfl (fun h => absurd h (by decide)) (ltn rfl)) rfl (by kernel_rfl) (by kernel_rfl) (by kernel_rfl) (by kernel_rfl) ⟨trivial, ⟨⟨1, rfl⟩, ⟨4, rfl⟩, trivial⟩, trivial⟩ (fun _ _ _ h => h) ?_
                          refine VA.va (i := 5) (listed' := LB 18 63) rfl (op_move rfl (ltn rfl)) rfl (by kernel_rfl) (by kernel_rfl) (by kernel_rfl) (by kernel_rfl) ⟨trivial, ⟨⟨1, rfl⟩, ⟨4, rfl⟩, trivial⟩, trivial⟩ (fun _ _ _ h => h) ?_
                          refine VA.oneC (i := 6) (listed' := LB 18 127) (by kernel_rfl) rfl (o_call0 FO16 (tarryref14_Tell.ok k t17 r18 a3 v21 t11203 r11204 hA11205) rfl rfl (ltn rfl) (All_of (.cons (List.mem_of_getElem? (i := 0) rfl) .nil))) rfl (by kernel_rfl) ?_
                          rintro _ _ _ ⟨v11207, rfl, rfl, rfl⟩
                          refine ⟨⟨trivial, ⟨⟨1, rfl⟩, ⟨4, rfl⟩, trivial⟩, trivial⟩, ?_⟩
                          refine VA.oneC (i := 7) (listed' := LB 18 255) (by kernel_rfl) rfl (o_call_b0 FO14 (tarryref14_Like.ok k t1487 r1488 t11203 r11204 v1493 v11207 false hA11209) rfl rfl (ltn rfl) (All_of (.cons (.inr (.inl ⟨_, List.mem_of_getElem? (i := 2) rfl, rfl⟩)) (.cons (.inr (.inl ⟨_, List.mem_of_getElem? (i := 0) rfl, rfl⟩)) .nil))) (by rintro _ _ _ ⟨rfl, rfl, rfl⟩; rfl)) rfl (by kernel_rfl) ?_
                          rintro _ _ _ ⟨rfl, rfl, rfl⟩
                          refine ⟨⟨trivial, ⟨⟨1, rfl⟩, ⟨4, rfl⟩, trivial⟩, trivial⟩, ?_⟩
                          refine VA.va (i := 8) (listed' := LB 18 511) rfl (op_not rfl rfl (ltn rfl)) rfl (by kernel_rfl) (by kernel_rfl) (by kernel_rfl) (by kernel_rfl) ⟨trivial, ⟨⟨1, rfl⟩, ⟨4, rfl⟩, trivial⟩, trivial⟩ (fun _ _ _ h => h) ?_
                          refine VA.va (i := 9) (listed' := LB 18 1023) rfl (op_pick rfl rfl (ltn rfl)) rfl (by kernel_rfl) (by kernel_rfl) (by kernel_rfl) (by kernel_rfl) ⟨trivial, ⟨⟨1, rfl⟩, ⟨4, rfl⟩, trivial⟩, trivial⟩ (fun _ _ _ h => h) ?_
                          refine VA.va (i := 10) (listed' := LB 18 2047) rfl (op_move rfl (ltn rfl)) rfl (by kernel_rfl) (by kernel_rfl) (by kernel_rfl) (by kernel_rfl) ⟨trivial, ⟨⟨1, rfl⟩, ⟨4, rfl⟩, trivial⟩, trivial⟩ (fun _ _ _ h => h) ?_
                          refine VA.un (i := 11) (listed' := LB 18 4095) rfl rfl rfl (ltn rfl) (by kernel_rfl) (by kernel_rfl) (by kernel_rfl) (by kernel_rfl) ⟨trivial, ⟨⟨1, rfl⟩, ⟨4, rfl⟩, trivial⟩, trivial⟩ (fun _ _ _ h => h) ?_
                          refine VA.un (i := 12) (listed' := LB 18 8191) rfl rfl rfl (ltn rfl) (by kernel_rfl) (by kernel_rfl) (by kernel_rfl) (by kernel_rfl) ⟨trivial, ⟨⟨1, rfl⟩, ⟨4, rfl⟩, trivial⟩, trivial⟩ (fun _ _ _ h => h) ?_
                          refine VA.un (i := 13) (listed' := LB 18 16383) rfl rfl rfl (ltn rfl) (by kernel_rfl) (by kernel_rfl) (by kernel_rfl) (by kernel_rfl) ⟨trivial, ⟨⟨1, rfl⟩, ⟨4, rfl⟩, trivial⟩, trivial⟩ (fun _ _ _ h => h) ?_
                          refine VA.un (i := 14) (listed' := LB 18 32767) rfl rfl rfl (ltn rfl) (by kernel_rfl) (by kernel_rfl) (by kernel_rfl) (by kernel_rfl) ⟨trivial, ⟨⟨1, rfl⟩, ⟨4, rfl⟩, trivial⟩, trivial⟩ (fun _ _ _ h => h) ?_
                          refine VA.un (i := 15) (listed' := LB 18 65535) rfl rfl rfl (ltn rfl) (by kernel_rfl) (by kernel_rfl) (by kernel_rfl) (by kernel_rfl) ⟨trivial, ⟨⟨1, rfl⟩, ⟨4, rfl⟩, trivial⟩, trivial⟩ (fun _ _ _ h => h) ?_
                          refine VA.un (i := 16) (listed' := LB 18 131071) rfl rfl rfl (ltn rfl) (by kernel_rfl) (by kernel_rfl) (by kernel_rfl) (by kernel_rfl) ⟨trivial, ⟨⟨1, rfl⟩, ⟨4, rfl⟩, trivial⟩, trivial⟩ (fun _ _ _ h => h) ?_
                          refine VA.va (i := 17) (listed' := LB 18 262143) rfl (op_pick rfl rfl (ltn rfl)) rfl (by kernel_rfl) (by kernel_rfl) (by kernel_rfl) (by kernel_rfl) ⟨trivial, ⟨⟨1, rfl⟩, ⟨4, rfl⟩, trivial⟩, trivial⟩ (fun _ _ _ h => h) ?_
                          refine VA.done (by kernel_rfl) ?_
                          exact VN.meet0  [0, 2, 3, 4] [3] trivial ⟨rfl, ⟨rfl, rfl, rfl, rfl, rfl, rfl, rfl, rfl, trivial⟩, ⟨⟨0, rfl⟩, trivial⟩, rfl, by decide, rfl, by decide⟩
                        intro _
                        refine VC.cond_t rfl ?_
                        refine VC.seq ?_
                        refine VC.region ?_
                        refine VL.va (op_assign rfl (ltn rfl)) rfl ?_
                        refine VL.done ?_
                        refine VN.then ?_
                        refine VC.ret ?_
                        refine VR.then ?_
                        cases h
                    · rw [if_neg c11202] at h
                      obtain rfl : b11201 = true := hb11201.symm.trans (bne_iff_ne.2 c11202)
                      refine VC.join0 (⟨224, [(4, .int .i64 a4), (5, .pointer (some ⟨g2, 0, none⟩)), (10, .bool false), (14, .pointer (some ⟨g1185, 0, none⟩)), (15, .pointer (some ⟨g1186, 0, none⟩)), (16, .int .i64 t1181), (22, .pointer (some ⟨g1497, 0, none⟩)), (191, .bool true)], [.row v21 4 (r18.map enc33)], [(g1497, 25, [.int .i64 0, .slice none 0 0]), (g1186, 34, [.int .i64 t1177, .int .i64 t1178, .int .i64 t1179, .int .i64 t1180]), (g1185, 25, [.int .i64 t1175, v1184]), (g2, 25, [.int .i64 t17, v21])], [(v1184, 34, 4, r1176.map enc33)]⟩) (True) ?_ ?_
                      · refine VC.draw ⟨0, [], [], [], []⟩ (by kernel_rfl) rfl (by kernel_rfl) (n := 18) (listed := LB 18 0) ?_
                        refine VA.va (i := 0) (listed' := LB 18 1) rfl (op_move rfl (ltn rfl)) rfl (by kernel_rfl) (by kernel_rfl) (by kernel_rfl) (by kernel_rfl) ⟨trivial, trivial, trivial⟩ (fun _ _ _ h => h) ?_
                        refine VA.va (i := 1) (listed' := LB 18 3) rfl (op_cmp rfl rfl (congrArg some hb11201) (ltn rfl)) rfl (by kernel_rfl) (by kernel_rfl) (by kernel_rfl) (by kernel_rfl) ⟨trivial, trivial, trivial⟩ (fun _ _ _ h => h) ?_
                        refine VA.va (i := 2) (listed' := LB 18 7) rfl (op_move rfl (ltn rfl)) rfl (by kernel_rfl) (by kernel_rfl) (by kernel_rfl) (by kernel_rfl) ⟨trivial, trivial, trivial⟩ (fun _ _ _ h => h) ?_
                        refine VA.un (i := 3) (listed' := LB 18 15) rfl rfl rfl (ltn rfl) (by kernel_rfl) (by kernel_rfl) (by kernel_rfl) (by kernel_rfl) ⟨trivial, trivial, trivial⟩ (fun _ _ _ h => h) ?_
                        refine VA.un (i := 4) (listed' := LB 18 31) rfl rfl rfl (ltn rfl) (by kernel_rfl) (by kernel_rfl) (by kernel_rfl) (by kernel_rfl) ⟨trivial, trivial, trivial⟩ (fun _ _ _ h => h) ?_
                        refine VA.un (i := 5) (listed' := LB 18 63) rfl rfl rfl (ltn rfl) (by kernel_rfl) (by kernel_rfl) (by kernel_rfl) (by kernel_rfl) ⟨trivial, trivial, trivial⟩ (fun _ _ _ h => h) ?_
                        refine VA.un (i := 6) (listed' := LB 18 127) rfl rfl rfl (ltn rfl) (by kernel_rfl) (by kernel_rfl) (by kernel_rfl) (by kernel_rfl) ⟨trivial, trivial, trivial⟩ (fun _ _ _ h => h) ?_
                        refine VA.un (i := 7) (listed' := LB 18 255) rfl rfl rfl (ltn rfl) (by kernel_rfl) (by kernel_rfl) (by kernel_rfl) (by kernel_rfl) ⟨trivial, trivial, trivial⟩ (fun _ _ _ h => h) ?_
                        refine VA.un (i := 8) (listed' := LB 18 511) rfl rfl rfl (ltn rfl) (by kernel_rfl) (by kernel_rfl) (by kernel_rfl) (by kernel_rfl) ⟨trivial, trivial, trivial⟩ (fun _ _ _ h => h) ?_
                        refine VA.va (i := 9) (listed' := LB 18 1023) rfl (op_pick rfl rfl (ltn rfl)) rfl (by kernel_rfl) (by kernel_rfl) (by kernel_rfl) (by kernel_rfl) ⟨trivial, trivial, trivial⟩ (fun _ _ _ h => h) ?_
                        refine VA.va (i := 10) (listed' := LB 18 2047) rfl (op_move rfl (ltn rfl)) rfl (by kernel_rfl) (by kernel_rfl) (by kernel_rfl) (by kernel_rfl) ⟨trivial, trivial, trivial⟩ (fun _ _ _ h => h) ?_
                        refine VA.un (i := 11) (listed' := LB 18 4095) rfl rfl rfl (ltn rfl) (by kernel_rfl) (by kernel_rfl) (by kernel_rfl) (by kernel_rfl) ⟨trivial, trivial, trivial⟩ (fun _ _ _ h => h) ?_
                        refine VA.un (i := 12) (listed' := LB 18 8191) rfl rfl rfl (ltn rfl) (by kernel_rfl) (by kernel_rfl) (by kernel_rfl) (by kernel_rfl) ⟨trivial, trivial, trivial⟩ (fun _ _ _ h => h) ?_
                        refine VA.un (i := 13) (listed' := LB 18 16383) rfl rfl rfl (ltn rfl) (by kernel_rfl) (by kernel_rfl) (by kernel_rfl) (by kernel_rfl) ⟨trivial, trivial, trivial⟩ (fun _ _ _ h => h) ?_
                        refine VA.un (i := 14) (listed' := LB 18 32767) rfl rfl rfl (ltn rfl) (by kernel_rfl) (by kernel_rfl) (by kernel_rfl) (by kernel_rfl) ⟨trivial, trivial, trivial⟩ (fun _ _ _ h => h) ?_
                        refine VA.un (i := 15) (listed' := LB 18 65535) rfl rfl rfl (ltn rfl) (by kernel_rfl) (by kernel_rfl) (by kernel_rfl) (by kernel_rfl) ⟨trivial, trivial, trivial⟩ (fun _ _ _ h => h) ?_
                        refine VA.un (i := 16) (listed' := LB 18 131071) rfl rfl rfl (ltn rfl) (by kernel_rfl) (by kernel_rfl) (by kernel_rfl) (by kernel_rfl) ⟨trivial, trivial, trivial⟩ (fun _ _ _ h => h) ?_
                        refine VA.va (i := 17) (listed' := LB 18 262143) rfl (op_pick rfl rfl (ltn rfl)) rfl (by kernel_rfl) (by kernel_rfl) (by kernel_rfl) (by kernel_rfl) ⟨trivial, trivial, trivial⟩ (fun _ _ _ h => h) ?_
                        refine VA.done (by kernel_rfl) ?_
                        exact VN.meet0  [0, 2, 3, 4] [2] trivial ⟨rfl, ⟨rfl, rfl, rfl, rfl, rfl, rfl, rfl, rfl, trivial⟩, ⟨⟨0, rfl⟩, trivial⟩, rfl, by decide, rfl, by decide⟩
                      intro _
                      refine VC.cond_t rfl ?_
                      refine VC.seq ?_
                      refine VC.region ?_
                      refine VL.va (op_assign rfl (ltn rfl)) rfl ?_
                      refine VL.done ?_
                      refine VN.then ?_
                      refine VC.ret ?_
                      refine VR.then ?_
                      cases h
              clear h
              intro  h
              unfold tarrylaw14_OutboxGoes.j28 at h
              refine VC.seq ?_
              refine VC.region ?_
              refine VL.va (op_load 3 2 rfl rfl TI25 rfl (fun h => absurd h (by decide)) (ltn rfl)) rfl ?_
              refine VL.va (op_move rfl (ltn rfl)) rfl ?_
              replace h := Option.bind_eq_some_iff.1 h
              obtain ⟨⟨t11218, t11219, t11220, t11221⟩, hA11222, h⟩ := h
              dsimp only at h
              refine VL.sC (o_call0 FO19 (tarryref14_Get.ok k t17 r18 a4 v21 t11218 t11219 t11220 t11221 hA11222) rfl rfl (ltn rfl) (All_of (.cons (List.mem_of_getElem? (i := 0) rfl) .nil))) rfl ?_
              rintro _ _ _ ⟨rfl, rfl, rfl⟩
              refine VL.sG (o_alloc Z34 ZL34 (ltn rfl)) rfl ?_
              intro g11223
              refine VL.step1 (o_store 0 4 rfl rfl rfl TI34 (.agg (.of rfl)) rfl (len rfl)) rfl ?_
              refine VL.done ?_
              refine VN.then ?_
              refine VC.seq ?_
              refine VC.seq ?_
              refine VC.region ?_
              refine VL.va (op_fieldAddr FI34_0 rfl (add_at _ _ _) (ltn rfl)) rfl ?_
              refine VL.va (op_load 0 1 rfl rfl TI3 rfl (by decide) (ltn rfl)) rfl ?_
              refine VL.letter ((t11218 == 0)) fun b11240 hb11240 => ?_
              refine VL.va (op_cmp rfl rfl (congrArg some hb11240) (ltn rfl)) rfl ?_
              refine VL.done ?_
              refine VN.then ?_
              by_cases c11241 : t11218 = 0
              · rw [if_pos c11241] at h
                obtain rfl : b11240 = true := hb11240.symm.trans (beq_iff_eq.2 c11241)
                refine VC.cond_t rfl ?_
                refine VC.seq ?_
                refine VC.region ?_
                refine VL.va (op_move rfl (ltn rfl)) rfl ?_
                refine VL.letter ((t1181 == 8)) fun b11249 hb11249 => ?_
                refine VL.va (op_cmp rfl rfl (congrArg some hb11249) (ltn rfl)) rfl ?_
                refine VL.va (op_move rfl (ltn rfl)) rfl ?_
                by_cases c11250 : t1181 = 8
                · rw [if_pos c11250] at h
                  obtain rfl : b11249 = true := hb11249.symm.trans (beq_iff_eq.2 c11250)
                  refine VL.va (op_load 2 4 rfl rfl TI34 rfl (fun h => absurd h (by decide)) (ltn rfl)) rfl ?_
                  refine VL.va (op_load 0 4 rfl rfl TI34 rfl (fun h => absurd h (by decide)) (ltn rfl)) rfl ?_
                  refine VL.letter ((((t1177 == t11218) && ((t1178 == t11219) && ((t1179 == t11220) && (t1180 == t11221)))))) fun b11251 hb11251 => ?_
                  refine VL.va (op_eqS rfl rfl EG34 (EQ34 t1177 t1178 t1179 t1180 t11218 t11219 t11220 t11221) hb11251 (ltn rfl)) rfl ?_
                  refine VL.va (op_pick rfl rfl (ltn rfl)) rfl ?_
                  refine VL.va (op_move rfl (ltn rfl)) rfl ?_
                  by_cases c11252 : (((t1177 == t11218) && ((t1178 == t11219) && ((t1179 == t11220) && (t1180 == t11221))))) = true
                  · rw [if_pos c11252] at h
                    obtain rfl : b11251 = true := hb11251.symm.trans (c11252)
                    refine VL.va (op_load 3 2 rfl rfl TI25 rfl (fun h => absurd h (by decide)) (ltn rfl)) rfl ?_
                    refine VL.va (op_load 1 2 rfl rfl TI25 rfl (fun h => absurd h (by decide)) (ltn rfl)) rfl ?_
                    refine VL.nilFact' 4 ?_
                    replace h := Option.bind_eq_some_iff.1 h
                    obtain ⟨t11254, hA11255, h⟩ := h
                    refine VL.sC (o_call_b0 FO14 (tarryref14_Like.ok k t1175 r1176 0 [] v1184 (.slice none 0 0) t11254 hA11255) rfl rfl (ltn rfl) (All_of (.cons (.inr (.inl ⟨_, List.mem_of_getElem? (i := 0) rfl, rfl⟩)) (.cons (.inl (List.mem_of_getElem? (i := 0) rfl)) .nil))) (by rintro _ _ _ ⟨rfl, rfl, rfl⟩; rfl)) rfl ?_
                    rintro _ _ _ ⟨rfl, rfl, rfl⟩
                    refine VL.va (op_pick rfl rfl (ltn rfl)) rfl ?_
                    refine VL.va (op_assign rfl (ltn rfl)) rfl ?_
                    refine VL.done ?_
                    refine VN.then ?_
                    refine VC.ret ?_
                    refine VR.then ?_
                    obtain rfl := Option.some.inj h
                    exact VR.fn (rs := [.tmp 10]) [] [] [] rfl (.tmp rfl .nil) ⟨rfl, rfl, rfl⟩ trivial rfl (by decide)
                  · rw [if_neg c11252] at h
                    obtain rfl : b11251 = false := hb11251.symm.trans (Bool.eq_false_iff.2 c11252)
                    refine VL.un rfl rfl (ltn rfl) ?_
                    refine VL.un rfl rfl (ltn rfl) ?_
                    refine VL.un rfl rfl (ltn rfl) ?_
                    refine VL.va (op_pick rfl rfl (ltn rfl)) rfl ?_
                    refine VL.va (op_assign rfl (ltn rfl)) rfl ?_
                    refine VL.done ?_
                    refine VN.then ?_
                    refine VC.ret ?_
                    refine VR.then ?_
                    cases h
                · rw [if_neg c11250] at h
                  obtain rfl : b11249 = false := hb11249.symm.trans (beq_eq_false_iff_ne.2 c11250)
                  refine VL.un rfl rfl (ltn rfl) ?_
                  refine VL.un rfl rfl (ltn rfl) ?_
                  refine VL.un rfl rfl (ltn rfl) ?_
                  refine VL.va (op_pick rfl rfl (ltn rfl)) rfl ?_
                  refine VL.va (op_move rfl (ltn rfl)) rfl ?_
                  refine VL.un rfl rfl (ltn rfl) ?_
                  refine VL.un rfl rfl (ltn rfl) ?_
                  refine VL.un rfl rfl (ltn rfl) ?_
                  refine VL.va (op_pick rfl rfl (ltn rfl)) rfl ?_
                  refine VL.va (op_assign rfl (ltn rfl)) rfl ?_
                  refine VL.done ?_
                  refine VN.then ?_
                  refine VC.ret ?_
                  refine VR.then ?_
                  cases h
              · rw [if_neg c11241] at h
                obtain rfl : b11240 = false := hb11240.symm.trans (beq_eq_false_iff_ne.2 c11241)
                refine VC.cond_f rfl ?_
                refine VC.skip ?_
                refine VN.then ?_
                refine VC.letter ((t1181 == 0)) fun b11256 hb11256 => ?_
                by_cases c11257 : t1181 = 0
                · rw [if_pos c11257] at h
                  obtain rfl : b11256 = true := hb11256.symm.trans (beq_iff_eq.2 c11257)
                  refine VC.letter ((((t1177 == t11218) && ((t1178 == t11219) && ((t1179 == t11220) && (t1180 == t11221)))))) fun b11258 hb11258 => ?_
                  by_cases c11259 : (((t1177 == t11218) && ((t1178 == t11219) && ((t1179 == t11220) && (t1180 == t11221))))) = true
                  · rw [if_pos c11259] at h
                    obtain rfl : b11258 = true := hb11258.symm.trans (c11259)
                    replace h := Option.bind_eq_some_iff.1 h
                    obtain ⟨⟨t11260, r11261⟩, hA11262, h⟩ := h
                    dsimp only at h
                    replace h := Option.bind_eq_some_iff.1 h
                    obtain ⟨t11265, hA11266, h⟩ := h
                    refine VC.join0 (⟨224, [(10, .bool t11265)], [], [], []⟩) (True) ?_ ?_
                    · refine VC.draw ⟨0, [], [], [(g11223, 34, [.int .i64 t11218, .int .i64 t11219, .int .i64 t11220, .int .i64 t11221]), (g1186, 34, [.int .i64 t1177, .int .i64 t1178, .int .i64 t1179, .int .i64 t1180]), (g1185, 25, [.int .i64 t1175, v1184]), (g2, 25, [.int .i64 t17, v21])], []⟩ (by kernel_rfl) rfl (by kernel_rfl) (n := 15) (listed := LB 15 0) ?_
                      refine VA.va (i := 0) (listed' := LB 15 1) rfl (op_move rfl (ltn rfl)) rfl (by kernel_rfl) (by kernel_rfl) (by kernel_rfl) (by kernel_rfl) ⟨trivial, ⟨⟨0, rfl⟩, ⟨2, rfl⟩, ⟨3, rfl⟩, ⟨4, rfl⟩, trivial⟩, trivial⟩ (fun _ _ _ h => h) ?_
                      refine VA.va (i := 1) (listed' := LB 15 3) rfl (op_cmp rfl rfl (congrArg some hb11256) (ltn rfl)) rfl (by kernel_rfl) (by kernel_rfl) (by kernel_rfl) (by kernel_rfl) ⟨trivial, ⟨⟨0, rfl⟩, ⟨2, rfl⟩, ⟨3, rfl⟩, ⟨4, rfl⟩, trivial⟩, trivial⟩ (fun _ _ _ h => h) ?_
                      refine VA.va (i := 2) (listed' := LB 15 7) rfl (op_move rfl (ltn rfl)) rfl (by kernel_rfl) (by kernel_rfl) (by kernel_rfl) (by kernel_rfl) ⟨trivial, ⟨⟨0, rfl⟩, ⟨2, rfl⟩, ⟨3, rfl⟩, ⟨4, rfl⟩, trivial⟩, trivial⟩ (fun _ _ _ h => h) ?_
                      refine VA.va (i := 3) (listed' := LB 15 15) rfl (op_load 1 4 rfl rfl TI34 rfl (fun h => absurd h (by decide)) (ltn rfl)) rfl (by kernel_rfl) (by kernel_rfl) (by kernel_rfl) (by kernel_rfl) ⟨trivial, ⟨⟨0, rfl⟩, ⟨2, rfl⟩, ⟨3, rfl⟩, ⟨4, rfl⟩, trivial⟩, trivial⟩ (fun _ _ _ h => h) ?_
                      refine VA.va (i := 4) (listed' := LB 15 31) rfl (op_load 0 4 rfl rfl TI34 rfl (fun h => absurd h (by decide)) (ltn rfl)) rfl (by kernel_rfl) (by kernel_rfl) (by kernel_rfl) (by kernel_rfl) ⟨trivial, ⟨⟨0, rfl⟩, ⟨2, rfl⟩, ⟨3, rfl⟩, ⟨4, rfl⟩, trivial⟩, trivial⟩ (fun _ _ _ h => h) ?_
                      refine VA.va (i := 5) (listed' := LB 15 63) rfl (op_eqS rfl rfl EG34 (EQ34 t1177 t1178 t1179 t1180 t11218 t11219 t11220 t11221) hb11258 (ltn rfl)) rfl (by kernel_rfl) (by kernel_rfl) (by kernel_rfl) (by kernel_rfl) ⟨trivial, ⟨⟨0, rfl⟩, ⟨2, rfl⟩, ⟨3, rfl⟩, ⟨4, rfl⟩, trivial⟩, trivial⟩ (fun _ _ _ h => h) ?_
                      refine VA.va (i := 6) (listed' := LB 15 127) rfl (op_pick rfl rfl (ltn rfl)) rfl (by kernel_rfl) (by kernel_rfl) (by kernel_rfl) (by kernel_rfl) ⟨trivial, ⟨⟨0, rfl⟩, ⟨2, rfl⟩, ⟨3, rfl⟩, ⟨4, rfl⟩, trivial⟩, trivial⟩ (fun _ _ _ h => h) ?_
                      refine VA.va (i := 7) (listed' := LB 15 255) rfl (op_move rfl (ltn rfl)) rfl (by kernel_rfl) (by kernel_rfl) (by kernel_rfl) (by kernel_rfl) ⟨trivial, ⟨⟨0, rfl⟩, ⟨2, rfl⟩, ⟨3, rfl⟩, ⟨4, rfl⟩, trivial⟩, trivial⟩ (fun _ _ _ h => h) ?_
                      refine VA.va (i := 8) (listed' := LB 15 511) rfl (op_load 2 2 rfl rfl TI25 rfl (fun h => absurd h (by decide)) (ltn rfl)) rfl (by kernel_rfl) (by kernel_rfl) (by kernel_rfl) (by kernel_rfl) ⟨trivial, ⟨⟨0, rfl⟩, ⟨2, rfl⟩, ⟨3, rfl⟩, ⟨4, rfl⟩, trivial⟩, trivial⟩ (fun _ _ _ h => h) ?_
                      refine VA.va (i := 9) (listed' := LB 15 1023) rfl (op_load 3 2 rfl rfl TI25 rfl (fun h => absurd h (by decide)) (ltn rfl)) rfl (by kernel_rfl) (by kernel_rfl) (by kernel_rfl) (by kernel_rfl) ⟨trivial, ⟨⟨0, rfl⟩, ⟨2, rfl⟩, ⟨3, rfl⟩, ⟨4, rfl⟩, trivial⟩, trivial⟩ (fun _ _ _ h => h) ?_
                      refine VA.va (i := 10) (listed' := LB 15 2047) rfl (op_move rfl (ltn rfl)) rfl (by kernel_rfl) (by kernel_rfl) (by kernel_rfl) (by kernel_rfl) ⟨trivial, ⟨⟨0, rfl⟩, ⟨2, rfl⟩, ⟨3, rfl⟩, ⟨4, rfl⟩, trivial⟩, trivial⟩ (fun _ _ _ h => h) ?_
                      refine VA.oneC (i := 11) (listed' := LB 15 4095) (by kernel_rfl) rfl (o_call0 FO20 (tarryref14_Done.ok k t17 r18 a4 v21 t11260 r11261 hA11262) rfl rfl (ltn rfl) (All_of (.cons (List.mem_of_getElem? (i := 0) rfl) .nil))) rfl (by kernel_rfl) ?_
                      rintro _ _ _ ⟨v11264, rfl, rfl, rfl⟩
                      refine ⟨⟨trivial, ⟨⟨0, rfl⟩, ⟨2, rfl⟩, ⟨3, rfl⟩, ⟨4, rfl⟩, trivial⟩, trivial⟩, ?_⟩
                      refine VA.oneC (i := 12) (listed' := LB 15 8191) (by kernel_rfl) rfl (o_call_b0 FO14 (tarryref14_Like.ok k t1175 r1176 t11260 r11261 v1184 v11264 t11265 hA11266) rfl rfl (ltn rfl) (All_of (.cons (.inr (.inl ⟨_, List.mem_of_getElem? (i := 1) rfl, rfl⟩)) (.cons (.inr (.inl ⟨_, List.mem_of_getElem? (i := 0) rfl, rfl⟩)) .nil))) (by rintro _ _ _ ⟨rfl, rfl, rfl⟩; rfl)) rfl (by kernel_rfl) ?_
                      rintro _ _ _ ⟨rfl, rfl, rfl⟩
                      refine ⟨⟨trivial, ⟨⟨0, rfl⟩, ⟨2, rfl⟩, ⟨3, rfl⟩, ⟨4, rfl⟩, trivial⟩, trivial⟩, ?_⟩
                      refine VA.va (i := 13) (listed' := LB 15 16383) rfl (op_pick rfl rfl (ltn rfl)) rfl (by kernel_rfl) (by kernel_rfl) (by kernel_rfl) (by kernel_rfl) ⟨trivial, ⟨⟨0, rfl⟩, ⟨2, rfl⟩, ⟨3, rfl⟩, ⟨4, rfl⟩, trivial⟩, trivial⟩ (fun _ _ _ h => h) ?_
                      refine VA.va (i := 14) (listed' := LB 15 32767) rfl (op_assign rfl (ltn rfl)) rfl (by kernel_rfl) (by kernel_rfl) (by kernel_rfl) (by kernel_rfl) ⟨trivial, ⟨⟨0, rfl⟩, ⟨2, rfl⟩, ⟨3, rfl⟩, ⟨4, rfl⟩, trivial⟩, trivial⟩ (fun _ _ _ h => h) ?_
                      refine VA.done (by kernel_rfl) ?_
                      exact VN.meet0  [] [] trivial ⟨rfl, ⟨rfl, trivial⟩, trivial, rfl, by decide, rfl, by decide⟩
                    intro _
                    refine VC.ret ?_
                    obtain rfl := Option.some.inj h
                    exact VR.fn (rs := [.tmp 10]) [] [] [] rfl (.tmp rfl .nil) ⟨rfl, rfl, rfl⟩ trivial rfl (by decide)
                  · rw [if_neg c11259] at h
                    obtain rfl : b11258 = false := hb11258.symm.trans (Bool.eq_false_iff.2 c11259)
                    refine VC.join0 (⟨224, [(10, .bool false)], [], [], []⟩) (True) ?_ ?_
                    · refine VC.draw ⟨0, [], [], [(g11223, 34, [.int .i64 t11218, .int .i64 t11219, .int .i64 t11220, .int .i64 t11221]), (g1186, 34, [.int .i64 t1177, .int .i64 t1178, .int .i64 t1179, .int .i64 t1180])], []⟩ (by kernel_rfl) rfl (by kernel_rfl) (n := 15) (listed := LB 15 0) ?_
                      refine VA.va (i := 0) (listed' := LB 15 1) rfl (op_move rfl (ltn rfl)) rfl (by kernel_rfl) (by kernel_rfl) (by kernel_rfl) (by kernel_rfl) ⟨trivial, ⟨⟨0, rfl⟩, ⟨2, rfl⟩, trivial⟩, trivial⟩ (fun _ _ _ h => h) ?_
                      refine VA.va (i := 1) (listed' := LB 15 3) rfl (op_cmp rfl rfl (congrArg some hb11256) (ltn rfl)) rfl (by kernel_rfl) (by kernel_rfl) (by kernel_rfl) (by kernel_rfl) ⟨trivial, ⟨⟨0, rfl⟩, ⟨2, rfl⟩, trivial⟩, trivial⟩ (fun _ _ _ h => h) ?_
                      refine VA.va (i := 2) (listed' := LB 15 7) rfl (op_move rfl (ltn rfl)) rfl (by kernel_rfl) (by kernel_rfl) (by kernel_rfl) (by kernel_rfl) ⟨trivial, ⟨⟨0, rfl⟩, ⟨2, rfl⟩, trivial⟩, trivial⟩ (fun _ _ _ h => h) ?_
                      refine VA.va (i := 3) (listed' := LB 15 15) rfl (op_load 1 4 rfl rfl TI34 rfl (fun h => absurd h (by decide)) (ltn rfl)) rfl (by kernel_rfl) (by kernel_rfl) (by kernel_rfl) (by kernel_rfl) ⟨trivial, ⟨⟨0, rfl⟩, ⟨2, rfl⟩, trivial⟩, trivial⟩ (fun _ _ _ h => h) ?_
                      refine VA.va (i := 4) (listed' := LB 15 31) rfl (op_load 0 4 rfl rfl TI34 rfl (fun h => absurd h (by decide)) (ltn rfl)) rfl (by kernel_rfl) (by kernel_rfl) (by kernel_rfl) (by kernel_rfl) ⟨trivial, ⟨⟨0, rfl⟩, ⟨2, rfl⟩, trivial⟩, trivial⟩ (fun _ _ _ h => h) ?_
                      refine VA.va (i := 5) (listed' := LB 15 63) rfl (op_eqS rfl rfl EG34 (EQ34 t1177 t1178 t1179 t1180 t11218 t11219 t11220 t11221) hb11258 (ltn rfl)) rfl (by kernel_rfl) (by kernel_rfl) (by kernel_rfl) (by kernel_rfl) ⟨trivial, ⟨⟨0, rfl⟩, ⟨2, rfl⟩, trivial⟩, trivial⟩ (fun _ _ _ h => h) ?_
                      refine VA.va (i := 6) (listed' := LB 15 127) rfl (op_pick rfl rfl (ltn rfl)) rfl (by kernel_rfl) (by kernel_rfl) (by kernel_rfl) (by kernel_rfl) ⟨trivial, ⟨⟨0, rfl⟩, ⟨2, rfl⟩, trivial⟩, trivial⟩ (fun _ _ _ h => h) ?_
                      refine VA.va (i := 7) (listed' := LB 15 255) rfl (op_move rfl (ltn rfl)) rfl (by kernel_rfl) (by kernel_rfl) (by kernel_rfl) (by kernel_rfl) ⟨trivial, ⟨⟨0, rfl⟩, ⟨2, rfl⟩, trivial⟩, trivial⟩ (fun _ _ _ h => h) ?_
                      refine VA.un (i := 8) (listed' := LB 15 511) rfl rfl rfl (ltn rfl) (by kernel_rfl) (by kernel_rfl) (by kernel_rfl) (by kernel_rfl) ⟨trivial, ⟨⟨0, rfl⟩, ⟨2, rfl⟩, trivial⟩, trivial⟩ (fun _ _ _ h => h) ?_
                      refine VA.un (i := 9) (listed' := LB 15 1023) rfl rfl rfl (ltn rfl) (by kernel_rfl) (by kernel_rfl) (by kernel_rfl) (by kernel_rfl) ⟨trivial, ⟨⟨0, rfl⟩, ⟨2, rfl⟩, trivial⟩, trivial⟩ (fun _ _ _ h => h) ?_
                      refine VA.un (i := 10) (listed' := LB 15 2047) rfl rfl rfl (ltn rfl) (by kernel_rfl) (by kernel_rfl) (by kernel_rfl) (by kernel_rfl) ⟨trivial, ⟨⟨0, rfl⟩, ⟨2, rfl⟩, trivial⟩, trivial⟩ (fun _ _ _ h => h) ?_
                      refine VA.un (i := 11) (listed' := LB 15 4095) rfl rfl rfl (ltn rfl) (by kernel_rfl) (by kernel_rfl) (by kernel_rfl) (by kernel_rfl) ⟨trivial, ⟨⟨0, rfl⟩, ⟨2, rfl⟩, trivial⟩, trivial⟩ (fun _ _ _ h => h) ?_
                      refine VA.un (i := 12) (listed' := LB 15 8191) rfl rfl rfl (ltn rfl) (by kernel_rfl) (by kernel_rfl) (by kernel_rfl) (by kernel_rfl) ⟨trivial, ⟨⟨0, rfl⟩, ⟨2, rfl⟩, trivial⟩, trivial⟩ (fun _ _ _ h => h) ?_
                      refine VA.va (i := 13) (listed' := LB 15 16383) rfl (op_pick rfl rfl (ltn rfl)) rfl (by kernel_rfl) (by kernel_rfl) (by kernel_rfl) (by kernel_rfl) ⟨trivial, ⟨⟨0, rfl⟩, ⟨2, rfl⟩, trivial⟩, trivial⟩ (fun _ _ _ h => h) ?_
                      refine VA.va (i := 14) (listed' := LB 15 32767) rfl (op_assign rfl (ltn rfl)) rfl (by kernel_rfl) (by kernel_rfl) (by kernel_rfl) (by kernel_rfl) ⟨trivial, ⟨⟨0, rfl⟩, ⟨2, rfl⟩, trivial⟩, trivial⟩ (fun _ _ _ h => h) ?_
                      refine VA.done (by kernel_rfl) ?_
                      exact VN.meet0  [] [] trivial ⟨rfl, ⟨rfl, trivial⟩, trivial, rfl, by decide, rfl, by decide⟩
                    intro _
                    refine VC.ret ?_
                    cases h
                · rw [if_neg c11257] at h
                  obtain rfl : b11256 = false := hb11256.symm.trans (beq_eq_false_iff_ne.2 c11257)
                  refine VC.join0 (⟨224, [(10, .bool false)], [], [], []⟩) (True) ?_ ?_
                  · refine VC.draw ⟨0, [], [], [], []⟩ (by kernel_rfl) rfl (by kernel_rfl) (n := 15) (listed := LB 15 0) ?_
                    refine VA.va (i := 0) (listed' := LB 15 1) rfl (op_move rfl (ltn rfl)) rfl (by kernel_rfl) (by kernel_rfl) (by kernel_rfl) (by kernel_rfl) ⟨trivial, trivial, trivial⟩ (fun _ _ _ h => h) ?_
                    refine VA.va (i := 1) (listed' := LB 15 3) rfl (op_cmp rfl rfl (congrArg some hb11256) (ltn rfl)) rfl (by kernel_rfl) (by kernel_rfl) (by kernel_rfl) (by kernel_rfl) ⟨trivial, trivial, trivial⟩ (fun _ _ _ h => h) ?_
                    refine VA.va (i := 2) (listed' := LB 15 7) rfl (op_move rfl (ltn rfl)) rfl (by kernel_rfl) (by kernel_rfl) (by kernel_rfl) (by kernel_rfl) ⟨trivial, trivial, trivial⟩ (fun _ _ _ h => h) ?_
                    refine VA.un (i := 3) (listed' := LB 15 15) rfl rfl rfl (ltn rfl) (by kernel_rfl) (by kernel_rfl) (by kernel_rfl) (by kernel_rfl) ⟨trivial, trivial, trivial⟩ (fun _ _ _ h => h) ?_
                    refine VA.un (i := 4) (listed' := LB 15 31) rfl rfl rfl (ltn rfl) (by kernel_rfl) (by kernel_rfl) (by kernel_rfl) (by kernel_rfl) ⟨trivial, trivial, trivial⟩ (fun _ _ _ h => h) ?_
                    refine VA.un (i := 5) (listed' := LB 15 63) rfl rfl rfl (ltn rfl) (by kernel_rfl) (by kernel_rfl) (by kernel_rfl) (by kernel_rfl) ⟨trivial, trivial, trivial⟩ (fun _ _ _ h => h) ?_
                    refine VA.va (i := 6) (listed' := LB 15 127) rfl (op_pick rfl rfl (ltn rfl)) rfl (by kernel_rfl) (by kernel_rfl) (by kernel_rfl) (by kernel_rfl) ⟨trivial, trivial, trivial⟩ (fun _ _ _ h => h) ?_
                    refine VA.va (i := 7) (listed' := LB 15 255) rfl (op_move rfl (ltn rfl)) rfl (by kernel_rfl) (by kernel_rfl) (by kernel_rfl) (by kernel_rfl) ⟨trivial, trivial, trivial⟩ (fun _ _ _ h => h) ?_
                    refine VA.un (i := 8) (listed' := LB 15 511) rfl rfl rfl (ltn rfl) (by kernel_rfl) (by kernel_rfl) (by kernel_rfl) (by kernel_rfl) ⟨trivial, trivial, trivial⟩ (fun _ _ _ h => h) ?_
                    refine VA.un (i := 9) (listed' := LB 15 1023) rfl rfl rfl (ltn rfl) (by kernel_rfl) (by kernel_rfl) (by kernel_rfl) (by kernel_rfl) ⟨trivial, trivial, trivial⟩ (fun _ _ _ h => h) ?_
                    refine VA.un (i := 10) (listed' := LB 15 2047) rfl rfl rfl (ltn rfl) (by kernel_rfl) (by kernel_rfl) (by kernel_rfl) (by kernel_rfl) ⟨trivial, trivial, trivial⟩ (fun _ _ _ h => h) ?_
                    refine VA.un (i := 11) (listed' := LB 15 4095) rfl rfl rfl (ltn rfl) (by kernel_rfl) (by kernel_rfl) (by kernel_rfl) (by kernel_rfl) ⟨trivial, trivial, trivial⟩ (fun _ _ _ h => h) ?_
                    refine VA.un (i := 12) (listed' := LB 15 8191) rfl rfl rfl (ltn rfl) (by kernel_rfl) (by kernel_rfl) (by kernel_rfl) (by kernel_rfl) ⟨trivial, trivial, trivial⟩ (fun _ _ _ h => h) ?_
                    refine VA.va (i := 13) (listed' := LB 15 16383) rfl (op_pick rfl rfl (ltn rfl)) rfl (by kernel_rfl) (by kernel_rfl) (by kernel_rfl) (by kernel_rfl) ⟨trivial, trivial, trivial⟩ (fun _ _ _ h => h) ?_
                    refine VA.va (i := 14) (listed' := LB 15 32767) rfl (op_assign rfl (ltn rfl)) rfl (by kernel_rfl) (by kernel_rfl) (by kernel_rfl) (by kernel_rfl) ⟨trivial, trivial, trivial⟩ (fun _ _ _ h => h) ?_
                    refine VA.done (by kernel_rfl) ?_
                    exact VN.meet0  [] [] trivial ⟨rfl, ⟨rfl, trivial⟩, trivial, rfl, by decide, rfl, by decide⟩
                  intro _
                  refine VC.ret ?_
                  cases h
          · rw [if_neg c4030] at h
            obtain rfl := Bool.eq_false_iff.2 c4030
            refine VC.join0 (⟨224, [(1, .int .i64 a1), (2, .int .i64 a2), (3, .int .i64 a3), (4, .int .i64 a4), (5, .pointer (some ⟨g2, 0, none⟩)), (10, .bool false), (14, .pointer (some ⟨g1185, 0, none⟩)), (15, .pointer (some ⟨g1186, 0, none⟩)), (16, .int .i64 t1181), (17, .pointer (some ⟨g1223, 0, none⟩)), (18, .int .i64 t1221), (19, .pointer (some ⟨g1496, 0, none⟩)), (20, v1495), (21, .int .i64 t1490), (22, .pointer (some ⟨g1497, 0, none⟩)), (91, .bool true)], [.row v21 4 (r18.map enc33)], [(g1497, 25, [.int .i64 0, .slice none 0 0]), (g1496, 25, [.int .i64 t1487, v1493]), (g1223, 34, [.int .i64 t1217, .int .i64 t1218, .int .i64 t1219, .int .i64 t1220]), (g1186, 34, [.int .i64 t1177, .int .i64 t1178, .int .i64 t1179, .int .i64 t1180]), (g1185, 25, [.int .i64 t1175, v1184]), (g2, 25, [.int .i64 t17, v21])], [(v1493, 34, 4, r1488.map enc33), (v1495, 34, 4, r1489.map enc33), (v1184, 34, 4, r1176.map enc33)]⟩) (True) ?_ ?_
            · refine VC.draw ⟨0, [], [], [(g3857, 46, [.int .i64 t3850, v3856, .int .i64 t3852, .int .i64 t3853]), (g1028, 25, [.int .i64 t1021, v1027]), (g2, 25, [.int .i64 t17, v21])], []⟩ (by kernel_rfl) rfl (by kernel_rfl) (n := 28) (listed := LB 28 0) ?_
              refine VA.va (i := 0) (listed' := LB 28 1) rfl (op_load 2 2 rfl rfl TI25 rfl (fun h => absurd h (by decide)) (ltn rfl)) rfl (by kernel_rfl) (by kernel_rfl) (by kernel_rfl) (by kernel_rfl) ⟨trivial, ⟨⟨0, rfl⟩, ⟨6, rfl⟩, ⟨7, rfl⟩, trivial⟩, trivial⟩ (fun _ _ _ h => h) ?_
              refine VA.va (i := 2) (listed' := LB 28 5) rfl (op_load 2 2 rfl rfl TI25 rfl (fun h => absurd h (by decide)) (ltn rfl)) rfl (by kernel_rfl) (by kernel_rfl) (by kernel_rfl) (by kernel_rfl) ⟨trivial, ⟨⟨0, rfl⟩, ⟨6, rfl⟩, ⟨7, rfl⟩, trivial⟩, trivial⟩ (fun _ _ _ h => h) ?_
              refine VA.oneC (i := 1) (listed' := LB 28 7) (by kernel_rfl) rfl (o_call0 FO8 (outbox_Right.ok k t17 r18 v21 t4015 hA4016) rfl rfl (ltn rfl) (All_of (.cons (List.mem_of_getElem? (i := 1) rfl) .nil))) rfl (by kernel_rfl) ?_
              rintro _ _ _ ⟨rfl, rfl, rfl⟩
              refine ⟨⟨trivial, ⟨⟨0, rfl⟩, ⟨6, rfl⟩, ⟨7, rfl⟩, trivial⟩, trivial⟩, ?_⟩
              refine VA.oneC (i := 3) (listed' := LB 28 15) (by kernel_rfl) rfl (o_call0 FO13 (tarryref14_Right.ok k t17 r18 v21 t4017 hA4018) rfl rfl (ltn rfl) (All_of (.cons (List.mem_of_getElem? (i := 1) rfl) .nil))) rfl (by kernel_rfl) ?_
              rintro _ _ _ ⟨rfl, rfl, rfl⟩
              refine ⟨⟨trivial, ⟨⟨0, rfl⟩, ⟨6, rfl⟩, ⟨7, rfl⟩, trivial⟩, trivial⟩, ?_⟩
              refine VA.va (i := 4) (listed' := LB 28 31) rfl (op_eqb Try.underlying4 rfl rfl (congrArg some hb4019) (ltn rfl)) rfl (by kernel_rfl) (by kernel_rfl) (by kernel_rfl) (by kernel_rfl) ⟨trivial, ⟨⟨0, rfl⟩, ⟨6, rfl⟩, ⟨7, rfl⟩, trivial⟩, trivial⟩ (fun _ _ _ h => h) ?_
              refine VA.va (i := 5) (listed' := LB 28 63) rfl (op_move rfl (ltn rfl)) rfl (by kernel_rfl) (by kernel_rfl) (by kernel_rfl) (by kernel_rfl) ⟨trivial, ⟨⟨0, rfl⟩, ⟨6, rfl⟩, ⟨7, rfl⟩, trivial⟩, trivial⟩ (fun _ _ _ h => h) ?_
              refine VA.va (i := 6) (listed' := LB 28 127) rfl (op_move rfl (ltn rfl)) rfl (by kernel_rfl) (by kernel_rfl) (by kernel_rfl) (by kernel_rfl) ⟨trivial, ⟨⟨0, rfl⟩, ⟨6, rfl⟩, ⟨7, rfl⟩, trivial⟩, trivial⟩ (fun _ _ _ h => h) ?_
              refine VA.va (i := 7) (listed' := LB 28 255) rfl (op_fieldAddr FI46_2 rfl (add_at _ _ _) (ltn rfl)) rfl (by kernel_rfl) (by kernel_rfl) (by kernel_rfl) (by kernel_rfl) ⟨trivial, ⟨⟨0, rfl⟩, ⟨6, rfl⟩, ⟨7, rfl⟩, trivial⟩, trivial⟩ (fun _ _ _ h => h) ?_
              refine VA.va (i := 8) (listed' := LB 28 511) rfl (op_load 0 1 rfl rfl TI30 rfl (by decide) (ltn rfl)) rfl (by kernel_rfl) (by kernel_rfl) (by kernel_rfl) (by kernel_rfl) ⟨trivial, ⟨⟨0, rfl⟩, ⟨6, rfl⟩, ⟨7, rfl⟩, trivial⟩, trivial⟩ (fun _ _ _ h => h) ?_
              refine VA.va (i := 9) (listed' := LB 28 1023) rfl (op_cmp rfl rfl (congrArg some hb4021) (ltn rfl)) rfl (by kernel_rfl) (by kernel_rfl) (by kernel_rfl) (by kernel_rfl) ⟨trivial, ⟨⟨0, rfl⟩, ⟨6, rfl⟩, ⟨7, rfl⟩, trivial⟩, trivial⟩ (fun _ _ _ h => h) ?_
              refine VA.va (i := 10) (listed' := LB 28 2047) rfl (op_pick rfl rfl (ltn rfl)) rfl (by kernel_rfl) (by kernel_rfl) (by kernel_rfl) (by kernel_rfl) ⟨trivial, ⟨⟨0, rfl⟩, ⟨6, rfl⟩, ⟨7, rfl⟩, trivial⟩, trivial⟩ (fun _ _ _ h => h) ?_
              refine VA.va (i := 11) (listed' := LB 28 4095) rfl (op_move rfl (ltn rfl)) rfl (by kernel_rfl) (by kernel_rfl) (by kernel_rfl) (by kernel_rfl) ⟨trivial, ⟨⟨0, rfl⟩, ⟨6, rfl⟩, ⟨7, rfl⟩, trivial⟩, trivial⟩ (fun _ _ _ h => h) ?_
              refine VA.va (i := 12) (listed' := LB 28 8191) rfl (op_move rfl (ltn rfl)) rfl (by kernel_rfl) (by kernel_rfl) (by kernel_rfl) (by kernel_rfl) ⟨trivial, ⟨⟨0, rfl⟩, ⟨6, rfl⟩, ⟨7, rfl⟩, trivial⟩, trivial⟩ (fun _ _ _ h => h) ?_
              refine VA.va (i := 13) (listed' := LB 28 16383) rfl (op_fieldAddr FI46_1 rfl (add_at _ _ _) (ltn rfl)) rfl (by kernel_rfl) (by kernel_rfl) (by kernel_rfl) (by kernel_rfl) ⟨trivial, ⟨⟨0, rfl⟩, ⟨6, rfl⟩, ⟨7, rfl⟩, trivial⟩, trivial⟩ (fun _ _ _ h => h) ?_
              refine VA.va (i := 14) (listed' := LB 28 32767) rfl (op_load 0 1 rfl rfl TI3 rfl (by decide) (ltn rfl)) rfl (by kernel_rfl) (by kernel_rfl) (by kernel_rfl) (by kernel_rfl) ⟨trivial, ⟨⟨0, rfl⟩, ⟨6, rfl⟩, ⟨7, rfl⟩, trivial⟩, trivial⟩ (fun _ _ _ h => h) ?_
              refine VA.va (i := 15) (listed' := LB 28 65535) rfl (op_cmp rfl rfl (congrArg some hb4023) (ltn rfl)) rfl (by kernel_rfl) (by kernel_rfl) (by kernel_rfl) (by kernel_rfl) ⟨trivial, ⟨⟨0, rfl⟩, ⟨6, rfl⟩, ⟨7, rfl⟩, trivial⟩, trivial⟩ (fun _ _ _ h => h) ?_
              refine VA.va (i := 16) (listed' := LB 28 131071) rfl (op_pick rfl rfl (ltn rfl)) rfl (by kernel_rfl) (by kernel_rfl) (by kernel_rfl) (by kernel_rfl) ⟨trivial, ⟨⟨0, rfl⟩, ⟨6, rfl⟩, ⟨7, rfl⟩, trivial⟩, trivial⟩ (fun _ _ _ h => h) ?_
              refine VA.va (i := 17) (listed' := LB 28 262143) rfl (op_move rfl (ltn rfl)) rfl (by kernel_rfl) (by kernel_rfl) (by kernel_rfl) (by kernel_rfl) ⟨trivial, ⟨⟨0, rfl⟩, ⟨6, rfl⟩, ⟨7, rfl⟩, trivial⟩, trivial⟩ (fun _ _ _ h => h) ?_
              refine VA.va (i := 18) (listed' := LB 28 524287) rfl (op_load 1 2 rfl rfl TI25 rfl (fun h => absurd h (by decide)) (ltn rfl)) rfl (by kernel_rfl) (by kernel_rfl) (by kernel_rfl) (by kernel_rfl) ⟨trivial, ⟨⟨0, rfl⟩, ⟨6, rfl⟩, ⟨7, rfl⟩, trivial⟩, trivial⟩ (fun _ _ _ h => h) ?_
              refine VA.va (i := 19) (listed' := LB 28 1048575) rfl (op_fieldAddr FI46_0 rfl (add_at _ _ _) (ltn rfl)) rfl (by kernel_rfl) (by kernel_rfl) (by kernel_rfl) (by kernel_rfl) ⟨trivial, ⟨⟨0, rfl⟩, ⟨6, rfl⟩, ⟨7, rfl⟩, trivial⟩, trivial⟩ (fun _ _ _ h => h) ?_
              refine VA.va (i := 20) (listed' := LB 28 2097151) rfl (op_load 0 2 rfl rfl TI25 rfl (fun h => absurd h (by decide)) (ltn rfl)) rfl (by kernel_rfl) (by kernel_rfl) (by kernel_rfl) (by kernel_rfl) ⟨trivial, ⟨⟨0, rfl⟩, ⟨6, rfl⟩, ⟨7, rfl⟩, trivial⟩, trivial⟩ (fun _ _ _ h => h) ?_
              refine VA.oneC (i := 21) (listed' := LB 28 4194303) (by kernel_rfl) rfl (o_call_b0 FO14 (tarryref14_Like.ok k t1021 r1022 t3850 r3851 v1027 v3856 true hA4026) rfl rfl (ltn rfl) (All_of (.cons (.inl (List.mem_of_getElem? (i := 0) rfl)) (.cons (.inr (.inl ⟨_, List.mem_of_getElem? (i := 0) rfl, rfl⟩)) .nil))) (by rintro _ _ _ ⟨rfl, rfl, rfl⟩; rfl)) rfl (by kernel_rfl) ?_
              rintro _ _ _ ⟨rfl, rfl, rfl⟩
              refine ⟨⟨trivial, ⟨⟨0, rfl⟩, ⟨6, rfl⟩, ⟨7, rfl⟩, trivial⟩, trivial⟩, ?_⟩
              refine VA.va (i := 22) (listed' := LB 28 8388607) rfl (op_not rfl rfl (ltn rfl)) rfl (by kernel_rfl) (by kernel_rfl) (by kernel_rfl) (by kernel_rfl) ⟨trivial, ⟨⟨0, rfl⟩, ⟨6, rfl⟩, ⟨7, rfl⟩, trivial⟩, trivial⟩ (fun _ _ _ h => h) ?_
              refine VA.va (i := 23) (listed' := LB 28 16777215) rfl (op_pick rfl rfl (ltn rfl)) rfl (by kernel_rfl) (by kernel_rfl) (by kernel_rfl) (by kernel_rfl) ⟨trivial, ⟨⟨0, rfl⟩, ⟨6, rfl⟩, ⟨7, rfl⟩, trivial⟩, trivial⟩ (fun _ _ _ h => h) ?_
              refine VA.va (i := 24) (listed' := LB 28 33554431) rfl (op_move rfl (ltn rfl)) rfl (by kernel_rfl) (by kernel_rfl) (by kernel_rfl) (by kernel_rfl) ⟨trivial, ⟨⟨0, rfl⟩, ⟨6, rfl⟩, ⟨7, rfl⟩, trivial⟩, trivial⟩ (fun _ _ _ h => h) ?_
              refine VA.oneC (i := 25) (listed' := LB 28 67108863) (by kernel_rfl) rfl (o_call0 FO9 (tarrylaw14_alive.ok k false hA4029) rfl rfl (ltn rfl) (All_of .nil)) rfl (by kernel_rfl) ?_
              rintro _ _ _ ⟨rfl, rfl, rfl⟩
              refine ⟨⟨trivial, ⟨⟨0, rfl⟩, ⟨6, rfl⟩, ⟨7, rfl⟩, trivial⟩, trivial⟩, ?_⟩
              refine VA.va (i := 26) (listed' := LB 28 134217727) rfl (op_not rfl rfl (ltn rfl)) rfl (by kernel_rfl) (by kernel_rfl) (by kernel_rfl) (by kernel_rfl) ⟨trivial, ⟨⟨0, rfl⟩, ⟨6, rfl⟩, ⟨7, rfl⟩, trivial⟩, trivial⟩ (fun _ _ _ h => h) ?_
              refine VA.va (i := 27) (listed' := LB 28 268435455) rfl (op_pick rfl rfl (ltn rfl)) rfl (by kernel_rfl) (by kernel_rfl) (by kernel_rfl) (by kernel_rfl) ⟨trivial, ⟨⟨0, rfl⟩, ⟨6, rfl⟩, ⟨7, rfl⟩, trivial⟩, trivial⟩ (fun _ _ _ h => h) ?_
              refine VA.done (by kernel_rfl) ?_
              exact VN.meet0  [1, 2, 3, 4, 5, 7] [1, 2, 3] trivial ⟨rfl, ⟨rfl, rfl, rfl, rfl, rfl, rfl, rfl, rfl, rfl, rfl, rfl, rfl, rfl, rfl, rfl, rfl, trivial⟩, ⟨⟨1, rfl⟩, trivial⟩, rfl, by decide, rfl, by decide⟩
            intro _
            refine VC.cond_t rfl ?_
            refine VC.seq ?_
            refine VC.region ?_
            refine VL.va (op_assign rfl (ltn rfl)) rfl ?_
            refine VL.done ?_
            refine VN.then ?_
            refine VC.ret ?_
            refine VR.then ?_
            cases h
        · rw [if_neg c4027] at h
          obtain rfl := Bool.eq_false_iff.2 c4027
          refine VC.join0 (⟨224, [(1, .int .i64 a1), (2, .int .i64 a2), (3, .int .i64 a3), (4, .int .i64 a4), (5, .pointer (some ⟨g2, 0, none⟩)), (10, .bool false), (14, .pointer (some ⟨g1185, 0, none⟩)), (15, .pointer (some ⟨g1186, 0, none⟩)), (16, .int .i64 t1181), (17, .pointer (some ⟨g1223, 0, none⟩)), (18, .int .i64 t1221), (19, .pointer (some ⟨g1496, 0, none⟩)), (20, v1495), (21, .int .i64 t1490), (22, .pointer (some ⟨g1497, 0, none⟩)), (91, .bool true)], [.row v21 4 (r18.map enc33)], [(g1497, 25, [.int .i64 0, .slice none 0 0]), (g1496, 25, [.int .i64 t1487, v1493]), (g1223, 34, [.int .i64 t1217, .int .i64 t1218, .int .i64 t1219, .int .i64 t1220]), (g1186, 34, [.int .i64 t1177, .int .i64 t1178, .int .i64 t1179, .int .i64 t1180]), (g1185, 25, [.int .i64 t1175, v1184]), (g2, 25, [.int .i64 t17, v21])], [(v1493, 34, 4, r1488.map enc33), (v1495, 34, 4, r1489.map enc33), (v1184, 34, 4, r1176.map enc33)]⟩) (True) ?_ ?_
          · refine VC.draw ⟨0, [], [], [(g3857, 46, [.int .i64 t3850, v3856, .int .i64 t3852, .int .i64 t3853]), (g1028, 25, [.int .i64 t1021, v1027]), (g2, 25, [.int .i64 t17, v21])], []⟩ (by kernel_rfl) rfl (by kernel_rfl) (n := 28) (listed := LB 28 0) ?_
            refine VA.va (i := 0) (listed' := LB 28 1) rfl (op_load 2 2 rfl rfl TI25 rfl (fun h => absurd h (by decide)) (ltn rfl)) rfl (by kernel_rfl) (by kernel_rfl) (by kernel_rfl) (by kernel_rfl) ⟨trivial, ⟨⟨0, rfl⟩, ⟨6, rfl⟩, ⟨7, rfl⟩, trivial⟩, trivial⟩ (fun _ _ _ h => h) ?_
            refine VA.va (i := 2) (listed' := LB 28 5) rfl (op_load 2 2 rfl rfl TI25 rfl (fun h => absurd h (by decide)) (ltn rfl)) rfl (by kernel_rfl) (by kernel_rfl) (by kernel_rfl) (by kernel_rfl) ⟨trivial, ⟨⟨0, rfl⟩, ⟨6, rfl⟩, ⟨7, rfl⟩, trivial⟩, trivial⟩ (fun _ _ _ h => h) ?_
            refine VA.oneC (i := 1) (listed' := LB 28 7) (by kernel_rfl) rfl (o_call0 FO8 (outbox_Right.ok k t17 r18 v21 t4015 hA4016) rfl rfl (ltn rfl) (All_of (.cons (List.mem_of_getElem? (i := 1) rfl) .nil))) rfl (by kernel_rfl) ?_
            rintro _ _ _ ⟨rfl, rfl, rfl⟩
            refine ⟨⟨trivial, ⟨⟨0, rfl⟩, ⟨6, rfl⟩, ⟨7, rfl⟩, trivial⟩, trivial⟩, ?_⟩
            refine VA.oneC (i := 3) (listed' := LB 28 15) (by kernel_rfl) rfl (o_call0 FO13 (tarryref14_Right.ok k t17 r18 v21 t4017 hA4018) rfl rfl (ltn rfl) (All_of (.cons (List.mem_of_getElem? (i := 1) rfl) .nil))) rfl (by kernel_rfl) ?_
            rintro _ _ _ ⟨rfl, rfl, rfl⟩
            refine ⟨⟨trivial, ⟨⟨0, rfl⟩, ⟨6, rfl⟩, ⟨7, rfl⟩, trivial⟩, trivial⟩, ?_⟩
            refine VA.va (i := 4) (listed' := LB 28 31) rfl (op_eqb Try.underlying4 rfl rfl (congrArg some hb4019) (ltn rfl)) rfl (by kernel_rfl) (by kernel_rfl) (by kernel_rfl) (by kernel_rfl) ⟨trivial, ⟨⟨0, rfl⟩, ⟨6, rfl⟩, ⟨7, rfl⟩, trivial⟩, trivial⟩ (fun _ _ _ h => h) ?_
            refine VA.va (i := 5) (listed' := LB 28 63) rfl (op_move rfl (ltn rfl)) rfl (by kernel_rfl) (by kernel_rfl) (by kernel_rfl) (by kernel_rfl) ⟨trivial, ⟨⟨0, rfl⟩, ⟨6, rfl⟩, ⟨7, rfl⟩, trivial⟩, trivial⟩ (fun _ _ _ h => h) ?_
            refine VA.va (i := 6) (listed' := LB 28 127) rfl (op_move rfl (ltn rfl)) rfl (by kernel_rfl) (by kernel_rfl) (by kernel_rfl) (by kernel_rfl) ⟨trivial, ⟨⟨0, rfl⟩, ⟨6, rfl⟩, ⟨7, rfl⟩, trivial⟩, trivial⟩ (fun _ _ _ h => h) ?_
            refine VA.va (i := 7) (listed' := LB 28 255) rfl (op_fieldAddr FI46_2 rfl (add_at _ _ _) (ltn rfl)) rfl (by kernel_rfl) (by kernel_rfl) (by kernel_rfl) (by kernel_rfl) ⟨trivial, ⟨⟨0, rfl⟩, ⟨6, rfl⟩, ⟨7, rfl⟩, trivial⟩, trivial⟩ (fun _ _ _ h => h) ?_
            refine VA.va (i := 8) (listed' := LB 28 511) rfl (op_load 0 1 rfl rfl TI30 rfl (by decide) (ltn rfl)) rfl (by kernel_rfl) (by kernel_rfl) (by kernel_rfl) (by kernel_rfl) ⟨trivial, ⟨⟨0, rfl⟩, ⟨6, rfl⟩, ⟨7, rfl⟩, trivial⟩, trivial⟩ (fun _ _ _ h => h) ?_
            refine VA.va (i := 9) (listed' := LB 28 1023) rfl (op_cmp rfl rfl (congrArg some hb4021) (ltn rfl)) rfl (by kernel_rfl) (by kernel_rfl) (by kernel_rfl) (by kernel_rfl) ⟨trivial, ⟨⟨0, rfl⟩, ⟨6, rfl⟩, ⟨7, rfl⟩, trivial⟩, trivial⟩ (fun _ _ _ h => h) ?_
            refine VA.va (i := 10) (listed' := LB 28 2047) rfl (op_pick rfl rfl (ltn rfl)) rfl (by kernel_rfl) (by kernel_rfl) (by kernel_rfl) (by kernel_rfl) ⟨trivial, ⟨⟨0, rfl⟩, ⟨6, rfl⟩, ⟨7, rfl⟩, trivial⟩, trivial⟩ (fun _ _ _ h => h) ?_
            refine VA.va (i := 11) (listed' := LB 28 4095) rfl (op_move rfl (ltn rfl)) rfl (by kernel_rfl) (by kernel_rfl) (by kernel_rfl) (by kernel_rfl) ⟨trivial, ⟨⟨0, rfl⟩, ⟨6, rfl⟩, ⟨7, rfl⟩, trivial⟩, trivial⟩ (fun _ _ _ h => h) ?_
            refine VA.va (i := 12) (listed' := LB 28 8191) rfl (op_move rfl (ltn rfl)) rfl (by kernel_rfl) (by kernel_rfl) (by kernel_rfl) (by kernel_rfl) ⟨trivial, ⟨⟨0, rfl⟩, ⟨6, rfl⟩, ⟨7, rfl⟩, trivial⟩, trivial⟩ (fun _ _ _ h => h) ?_
            refine VA.va (i := 13) (listed' := LB 28 16383) rfl (op_fieldAddr FI46_1 rfl (add_at _ _ _) (ltn rfl)) rfl (by kernel_rfl) (by kernel_rfl) (by kernel_rfl) (by kernel_rfl) ⟨trivial, ⟨⟨0, rfl⟩, ⟨6, rfl⟩, ⟨7, rfl⟩, trivial⟩, trivial⟩ (fun _ _ _ h => h) ?_
            refine VA.va (i := 14) (listed' := LB 28 32767) rfl (op_load 0 1 rfl rfl TI3 rfl (by decide) (ltn rfl)) rfl (by kernel_rfl) (by kernel_rfl) (by kernel_rfl) (by kernel_rfl) ⟨trivial, ⟨⟨0, rfl⟩, ⟨6, rfl⟩, ⟨7, rfl⟩, trivial⟩, trivial⟩ (fun _ _ _ h => h) ?_
            refine VA.va (i := 15) (listed' := LB 28 65535) rfl (op_cmp rfl rfl (congrArg some hb4023) (ltn rfl)) rfl (by kernel_rfl) (by kernel_rfl) (by kernel_rfl) (by kernel_rfl) ⟨trivial, ⟨⟨0, rfl⟩, ⟨6, rfl⟩, ⟨7, rfl⟩, trivial⟩, trivial⟩ (fun _ _ _ h => h) ?_
            refine VA.va (i := 16) (listed' := LB 28 131071) rfl (op_pick rfl rfl (ltn rfl)) rfl (by kernel_rfl) (by kernel_rfl) (by kernel_rfl) (by kernel_rfl) ⟨trivial, ⟨⟨0, rfl⟩, ⟨6, rfl⟩, ⟨7, rfl⟩, trivial⟩, trivial⟩ (fun _ _ _ h => h) ?_
            refine VA.va (i := 17) (listed' := LB 28 262143) rfl (op_move rfl (ltn rfl)) rfl (by kernel_rfl) (by kernel_rfl) (by kernel_rfl) (by kernel_rfl) ⟨trivial, ⟨⟨0, rfl⟩, ⟨6, rfl⟩, ⟨7, rfl⟩, trivial⟩, trivial⟩ (fun _ _ _ h => h) ?_
            refine VA.va (i := 18) (listed' := LB 28 524287) rfl (op_load 1 2 rfl rfl TI25 rfl (fun h => absurd h (by decide)) (ltn rfl)) rfl (by kernel_rfl) (by kernel_rfl) (by kernel_rfl) (by kernel_rfl) ⟨trivial, ⟨⟨0, rfl⟩, ⟨6, rfl⟩, ⟨7, rfl⟩, trivial⟩, trivial⟩ (fun _ _ _ h => h) ?_
            refine VA.va (i := 19) (listed' := LB 28 1048575) rfl (op_fieldAddr FI46_0 rfl (add_at _ _ _) (ltn rfl)) rfl (by kernel_rfl) (by kernel_rfl) (by kernel_rfl) (by kernel_rfl) ⟨trivial, ⟨⟨0, rfl⟩, ⟨6, rfl⟩, ⟨7, rfl⟩, trivial⟩, trivial⟩ (fun _ _ _ h => h) ?_
            refine VA.va (i := 20) (listed' := LB 28 2097151) rfl (op_load 0 2 rfl rfl TI25 rfl (fun h => absurd h (by decide)) (ltn rfl)) rfl (by kernel_rfl) (by kernel_rfl) (by kernel_rfl) (by kernel_rfl) ⟨trivial, ⟨⟨0, rfl⟩, ⟨6, rfl⟩, ⟨7, rfl⟩, trivial⟩, trivial⟩ (fun _ _ _ h => h) ?_
            refine VA.oneC (i := 21) (listed' := LB 28 4194303) (by kernel_rfl) rfl (o_call_b0 FO14 (tarryref14_Like.ok k t1021 r1022 t3850 r3851 v1027 v3856 false hA4026) rfl rfl (ltn rfl) (All_of (.cons (.inl (List.mem_of_getElem? (i := 0) rfl)) (.cons (.inr (.inl ⟨_, List.mem_of_getElem? (i := 0) rfl, rfl⟩)) .nil))) (by rintro _ _ _ ⟨rfl, rfl, rfl⟩; rfl)) rfl (by kernel_rfl) ?_
            rintro _ _ _ ⟨rfl, rfl, rfl⟩
            refine ⟨⟨trivial, ⟨⟨0, rfl⟩, ⟨6, rfl⟩, ⟨7, rfl⟩, trivial⟩, trivial⟩, ?_⟩
            refine VA.va (i := 22) (listed' := LB 28 8388607) rfl (op_not rfl rfl (ltn rfl)) rfl (by kernel_rfl) (by kernel_rfl) (by kernel_rfl) (by kernel_rfl) ⟨trivial, ⟨⟨0, rfl⟩, ⟨6, rfl⟩, ⟨7, rfl⟩, trivial⟩, trivial⟩ (fun _ _ _ h => h) ?_
            refine VA.va (i := 23) (listed' := LB 28 16777215) rfl (op_pick rfl rfl (ltn rfl)) rfl (by kernel_rfl) (by kernel_rfl) (by kernel_rfl) (by kernel_rfl) ⟨trivial, ⟨⟨0, rfl⟩, ⟨6, rfl⟩, ⟨7, rfl⟩, trivial⟩, trivial⟩ (fun _ _ _ h => h) ?_
            refine VA.va (i := 24) (listed' := LB 28 33554431) rfl (op_move rfl (ltn rfl)) rfl (by kernel_rfl) (by kernel_rfl) (by kernel_rfl) (by kernel_rfl) ⟨trivial, ⟨⟨0, rfl⟩, ⟨6, rfl⟩, ⟨7, rfl⟩, trivial⟩, trivial⟩ (fun _ _ _ h => h) ?_
            refine VA.un (i := 25) (listed' := LB 28 67108863) rfl rfl rfl (ltn rfl) (by kernel_rfl) (by kernel_rfl) (by kernel_rfl) (by kernel_rfl) ⟨trivial, ⟨⟨0, rfl⟩, ⟨6, rfl⟩, ⟨7, rfl⟩, trivial⟩, trivial⟩ (fun _ _ _ h => h) ?_
            refine VA.un (i := 26) (listed' := LB 28 134217727) rfl rfl rfl (ltn rfl) (by kernel_rfl) (by kernel_rfl) (by kernel_rfl) (by kernel_rfl) ⟨trivial, ⟨⟨0, rfl⟩, ⟨6, rfl⟩, ⟨7, rfl⟩, trivial⟩, trivial⟩ (fun _ _ _ h => h) ?_
            refine VA.va (i := 27) (listed' := LB 28 268435455) rfl (op_pick rfl rfl (ltn rfl)) rfl (by kernel_rfl) (by kernel_rfl) (by kernel_rfl) (by kernel_rfl) ⟨trivial, ⟨⟨0, rfl⟩, ⟨6, rfl⟩, ⟨7, rfl⟩, trivial⟩, trivial⟩ (fun _ _ _ h => h) ?_
            refine VA.done (by kernel_rfl) ?_
            exact VN.meet0  [1, 2, 3, 4, 5, 7] [1, 2, 3] trivial ⟨rfl, ⟨rfl, rfl, rfl, rfl, rfl, rfl, rfl, rfl, rfl, rfl, rfl, rfl, rfl, rfl, rfl, rfl, trivial⟩, ⟨⟨1, rfl⟩, trivial⟩, rfl, by decide, rfl, by decide⟩
          intro _
          refine VC.cond_t rfl ?_
          refine VC.seq ?_
          refine VC.region ?_
          refine VL.va (op_assign rfl (ltn rfl)) rfl ?_
          refine VL.done ?_
          refine VN.then ?_
          refine VC.ret ?_
          refine VR.then ?_
          cases h
      · rw [if_neg c4024] at h
        obtain rfl : b4023 = true := hb4023.symm.trans (bne_iff_ne.2 c4024)
        refine VC.join0 (⟨224, [(1, .int .i64 a1), (2, .int .i64 a2), (3, .int .i64 a3), (4, .int .i64 a4), (5, .pointer (some ⟨g2, 0, none⟩)), (10, .bool false), (14, .pointer (some ⟨g1185, 0, none⟩)), (15, .pointer (some ⟨g1186, 0, none⟩)), (16, .int .i64 t1181), (17, .pointer (some ⟨g1223, 0, none⟩)), (18, .int .i64 t1221), (19, .pointer (some ⟨g1496, 0, none⟩)), (20, v1495), (21, .int .i64 t1490), (22, .pointer (some ⟨g1497, 0, none⟩)), (91, .bool true)], [.row v21 4 (r18.map enc33)], [(g1497, 25, [.int .i64 0, .slice none 0 0]), (g1496, 25, [.int .i64 t1487, v1493]), (g1223, 34, [.int .i64 t1217, .int .i64 t1218, .int .i64 t1219, .int .i64 t1220]), (g1186, 34, [.int .i64 t1177, .int .i64 t1178, .int .i64 t1179, .int .i64 t1180]), (g1185, 25, [.int .i64 t1175, v1184]), (g2, 25, [.int .i64 t17, v21])], [(v1493, 34, 4, r1488.map enc33), (v1495, 34, 4, r1489.map enc33), (v1184, 34, 4, r1176.map enc33)]⟩) (True) ?_ ?_
        · refine VC.draw ⟨0, [], [], [(g3857, 46, [.int .i64 t3850, v3856, .int .i64 t3852, .int .i64 t3853]), (g2, 25, [.int .i64 t17, v21])], []⟩ (by kernel_rfl) rfl (by kernel_rfl) (n := 28) (listed := LB 28 0) ?_
          refine VA.va (i := 0) (listed' := LB 28 1) rfl (op_load 1 2 rfl rfl TI25 rfl (fun h => absurd h (by decide)) (ltn rfl)) rfl (by kernel_rfl) (by kernel_rfl) (by kernel_rfl) (by kernel_rfl) ⟨trivial, ⟨⟨0, rfl⟩, ⟨7, rfl⟩, trivial⟩, trivial⟩ (fun _ _ _ h => h) ?_
          refine VA.va (i := 2) (listed' := LB 28 5) rfl (op_load 1 2 rfl rfl TI25 rfl (fun h => absurd h (by decide)) (ltn rfl)) rfl (by kernel_rfl) (by kernel_rfl) (by kernel_rfl) (by kernel_rfl) ⟨trivial, ⟨⟨0, rfl⟩, ⟨7, rfl⟩, trivial⟩, trivial⟩ (fun _ _ _ h => h) ?_
          refine VA.oneC (i := 1) (listed' := LB 28 7) (by kernel_rfl) rfl (o_call0 FO8 (outbox_Right.ok k t17 r18 v21 t4015 hA4016) rfl rfl (ltn rfl) (All_of (.cons (List.mem_of_getElem? (i := 1) rfl) .nil))) rfl (by kernel_rfl) ?_
          rintro _ _ _ ⟨rfl, rfl, rfl⟩
          refine ⟨⟨trivial, ⟨⟨0, rfl⟩, ⟨7, rfl⟩, trivial⟩, trivial⟩, ?_⟩
          refine VA.oneC (i := 3) (listed' := LB 28 15) (by kernel_rfl) rfl (o_call0 FO13 (tarryref14_Right.ok k t17 r18 v21 t4017 hA4018) rfl rfl (ltn rfl) (All_of (.cons (List.mem_of_getElem? (i := 1) rfl) .nil))) rfl (by kernel_rfl) ?_
          rintro _ _ _ ⟨rfl, rfl, rfl⟩
          refine ⟨⟨trivial, ⟨⟨0, rfl⟩, ⟨7, rfl⟩, trivial⟩, trivial⟩, ?_⟩
          refine VA.va (i := 4) (listed' := LB 28 31) rfl (op_eqb Try.underlying4 rfl rfl (congrArg some hb4019) (ltn rfl)) rfl (by kernel_rfl) (by kernel_rfl) (by kernel_rfl) (by kernel_rfl) ⟨trivial, ⟨⟨0, rfl⟩, ⟨7, rfl⟩, trivial⟩, trivial⟩ (fun _ _ _ h => h) ?_
          refine VA.va (i := 5) (listed' := LB 28 63) rfl (op_move rfl (ltn rfl)) rfl (by kernel_rfl) (by kernel_rfl) (by kernel_rfl) (by kernel_rfl) ⟨trivial, ⟨⟨0, rfl⟩, ⟨7, rfl⟩, trivial⟩, trivial⟩ (fun _ _ _ h => h) ?_
          refine VA.va (i := 6) (listed' := LB 28 127) rfl (op_move rfl (ltn rfl)) rfl (by kernel_rfl) (by kernel_rfl) (by kernel_rfl) (by kernel_rfl) ⟨trivial, ⟨⟨0, rfl⟩, ⟨7, rfl⟩, trivial⟩, trivial⟩ (fun _ _ _ h => h) ?_
          refine VA.va (i := 7) (listed' := LB 28 255) rfl (op_fieldAddr FI46_2 rfl (add_at _ _ _) (ltn rfl)) rfl (by kernel_rfl) (by kernel_rfl) (by kernel_rfl) (by kernel_rfl) ⟨trivial, ⟨⟨0, rfl⟩, ⟨7, rfl⟩, trivial⟩, trivial⟩ (fun _ _ _ h => h) ?_
          refine VA.va (i := 8) (listed' := LB 28 511) rfl (op_load 0 1 rfl rfl TI30 rfl (by decide) (ltn rfl)) rfl (by kernel_rfl) (by kernel_rfl) (by kernel_rfl) (by kernel_rfl) ⟨trivial, ⟨⟨0, rfl⟩, ⟨7, rfl⟩, trivial⟩, trivial⟩ (fun _ _ _ h => h) ?_
          refine VA.va (i := 9) (listed' := LB 28 1023) rfl (op_cmp rfl rfl (congrArg some hb4021) (ltn rfl)) rfl (by kernel_rfl) (by kernel_rfl) (by kernel_rfl) (by kernel_rfl) ⟨trivial, ⟨⟨0, rfl⟩, ⟨7, rfl⟩, trivial⟩, trivial⟩ (fun _ _ _ h => h) ?_
          refine VA.va (i := 10) (listed' := LB 28 2047) rfl (op_pick rfl rfl (ltn rfl)) rfl (by kernel_rfl) (by kernel_rfl) (by kernel_rfl) (by kernel_rfl) ⟨trivial, ⟨⟨0, rfl⟩, ⟨7, rfl⟩, trivial⟩, trivial⟩ (fun _ _ _ h => h) ?_
          refine VA.va (i := 11) (listed' := LB 28 4095) rfl (op_move rfl (ltn rfl)) rfl (by kernel_rfl) (by kernel_rfl) (by kernel_rfl) (by kernel_rfl) ⟨trivial, ⟨⟨0, rfl⟩, ⟨7, rfl⟩, trivial⟩, trivial⟩ (fun _ _ _ h => h) ?_
          refine VA.va (i := 12) (listed' := LB 28 8191) rfl (op_move rfl (ltn rfl)) rfl (by kernel_rfl) (by kernel_rfl) (by kernel_rfl) (by kernel_rfl) ⟨trivial, ⟨⟨0, rfl⟩, ⟨7, rfl⟩, trivial⟩, trivial⟩ (fun _ _ _ h => h) ?_
          refine VA.va (i := 13) (listed' := LB 28 16383) rfl (op_fieldAddr FI46_1 rfl (add_at _ _ _) (ltn rfl)) rfl (by kernel_rfl) (by kernel_rfl) (by kernel_rfl) (by kernel_rfl) ⟨trivial, ⟨⟨0, rfl⟩, ⟨7, rfl⟩, trivial⟩, trivial⟩ (fun _ _ _ h => h) ?_
          refine VA.va (i := 14) (listed' := LB 28 32767) rfl (op_load 0 1 rfl rfl TI3 rfl (by decide) (ltn rfl)) rfl (by kernel_rfl) (by kernel_rfl) (by kernel_rfl) (by kernel_rfl) ⟨trivial, ⟨⟨0, rfl⟩, ⟨7, rfl⟩, trivial⟩, trivial⟩ (fun _ _ _ h => h) ?_
          refine VA.va (i := 15) (listed' := LB 28 65535) rfl (op_cmp rfl rfl (congrArg some hb4023) (ltn rfl)) rfl (by kernel_rfl) (by kernel_rfl) (by kernel_rfl) (by kernel_rfl) ⟨trivial, ⟨⟨0, rfl⟩, ⟨7, rfl⟩, trivial⟩, trivial⟩ (fun _ _ _ h => h) ?_
          refine VA.va (i := 16) (listed' := LB 28 131071) rfl (op_pick rfl rfl (ltn rfl)) rfl (by kernel_rfl) (by kernel_rfl) (by kernel_rfl) (by kernel_rfl) ⟨trivial, ⟨⟨0, rfl⟩, ⟨7, rfl⟩, trivial⟩, trivial⟩ (fun _ _ _ h => h) ?_
          refine VA.va (i := 17) (listed' := LB 28 262143) rfl (op_move rfl (ltn rfl)) rfl (by kernel_rfl) (by kernel_rfl) (by kernel_rfl) (by kernel_rfl) ⟨trivial, ⟨⟨0, rfl⟩, ⟨7, rfl⟩, trivial⟩, trivial⟩ (fun _ _ _ h => h) ?_
          refine VA.un (i := 18) (listed' := LB 28 524287) rfl rfl rfl (ltn rfl) (by kernel_rfl) (by kernel_rfl) (by kernel_rfl) (by kernel_rfl) ⟨trivial, ⟨⟨0, rfl⟩, ⟨7, rfl⟩, trivial⟩, trivial⟩ (fun _ _ _ h => h) ?_
          refine VA.un (i := 19) (listed' := LB 28 1048575) rfl rfl rfl (ltn rfl) (by kernel_rfl) (by kernel_rfl) (by kernel_rfl) (by kernel_rfl) ⟨trivial, ⟨⟨0, rfl⟩, ⟨7, rfl⟩, trivial⟩, trivial⟩ (fun _ _ _ h => h) ?_
          refine VA.un (i := 20) (listed' := LB 28 2097151) rfl rfl rfl (ltn rfl) (by kernel_rfl) (by kernel_rfl) (by kernel_rfl) (by kernel_rfl) ⟨trivial, ⟨⟨0, rfl⟩, ⟨7, rfl⟩, trivial⟩, trivial⟩ (fun _ _ _ h => h) ?_
          refine VA.un (i := 21) (listed' := LB 28 4194303) rfl rfl rfl (ltn rfl) (by kernel_rfl) (by kernel_rfl) (by kernel_rfl) (by kernel_rfl) ⟨trivial, ⟨⟨0, rfl⟩, ⟨7, rfl⟩, trivial⟩, trivial⟩ (fun _ _ _ h => h) ?_
          refine VA.un (i := 22) (listed' := LB 28 8388607) rfl rfl rfl (ltn rfl) (by kernel_rfl) (by kernel_rfl) (by kernel_rfl) (by kernel_rfl) ⟨trivial, ⟨⟨0, rfl⟩, ⟨7, rfl⟩, trivial⟩, trivial⟩ (fun _ _ _ h => h) ?_
          refine VA.va (i := 23) (listed' := LB 28 16777215) rfl (op_pick rfl rfl (ltn rfl)) rfl (by kernel_rfl) (by kernel_rfl) (by kernel_rfl) (by kernel_rfl) ⟨trivial, ⟨⟨0, rfl⟩, ⟨7, rfl⟩, trivial⟩, trivial⟩ (fun _ _ _ h => h) ?_
          refine VA.va (i := 24) (listed' := LB 28 33554431) rfl (op_move rfl (ltn rfl)) rfl (by kernel_rfl) (by kernel_rfl) (by kernel_rfl) (by kernel_rfl) ⟨trivial, ⟨⟨0, rfl⟩, ⟨7, rfl⟩, trivial⟩, trivial⟩ (fun _ _ _ h => h) ?_
          refine VA.un (i := 25) (listed' := LB 28 67108863) rfl rfl rfl (ltn rfl) (by kernel_rfl) (by kernel_rfl) (by kernel_rfl) (by kernel_rfl) ⟨trivial, ⟨⟨0, rfl⟩, ⟨7, rfl⟩, trivial⟩, trivial⟩ (fun _ _ _ h => h) ?_
          refine VA.un (i := 26) (listed' := LB 28 134217727) rfl rfl rfl (ltn rfl) (by kernel_rfl) (by kernel_rfl) (by kernel_rfl) (by kernel_rfl) ⟨trivial, ⟨⟨0, rfl⟩, ⟨7, rfl⟩, trivial⟩, trivial⟩ (fun _ _ _ h => h) ?_
          refine VA.va (i := 27) (listed' := LB 28 268435455) rfl (op_pick rfl rfl (ltn rfl)) rfl (by kernel_rfl) (by kernel_rfl) (by kernel_rfl) (by kernel_rfl) ⟨trivial, ⟨⟨0, rfl⟩, ⟨7, rfl⟩, trivial⟩, trivial⟩ (fun _ _ _ h => h) ?_
          refine VA.done (by kernel_rfl) ?_
          exact VN.meet0  [1, 2, 3, 4, 5, 7] [1, 2, 3] trivial ⟨rfl, ⟨rfl, rfl, rfl, rfl, rfl, rfl, rfl, rfl, rfl, rfl, rfl, rfl, rfl, rfl, rfl, rfl, trivial⟩, ⟨⟨1, rfl⟩, trivial⟩, rfl, by decide, rfl, by decide⟩
        intro _
        refine VC.cond_t rfl ?_
        refine VC.seq ?_
        refine VC.region ?_
        refine VL.va (op_assign rfl (ltn rfl)) rfl ?_
        refine VL.done ?_
        refine VN.then ?_
        refine VC.ret ?_
        refine VR.then ?_
        cases h
    · rw [if_neg c4022] at h
      obtain rfl : b4021 = true := hb4021.symm.trans (bne_iff_ne.2 c4022)
      refine VC.join0 (⟨224, [(1, .int .i64 a1), (2, .int .i64 a2), (3, .int .i64 a3), (4, .int .i64 a4), (5, .pointer (some ⟨g2, 0, none⟩)), (10, .bool false), (14, .pointer (some ⟨g1185, 0, none⟩)), (15, .pointer (some ⟨g1186, 0, none⟩)), (16, .int .i64 t1181), (17, .pointer (some ⟨g1223, 0, none⟩)), (18, .int .i64 t1221), (19, .pointer (some ⟨g1496, 0, none⟩)), (20, v1495), (21, .int .i64 t1490), (22, .pointer (some ⟨g1497, 0, none⟩)), (91, .bool true)], [.row v21 4 (r18.map enc33)], [(g1497, 25, [.int .i64 0, .slice none 0 0]), (g1496, 25, [.int .i64 t1487, v1493]), (g1223, 34, [.int .i64 t1217, .int .i64 t1218, .int .i64 t1219, .int .i64 t1220]), (g1186, 34, [.int .i64 t1177, .int .i64 t1178, .int .i64 t1179, .int .i64 t1180]), (g1185, 25, [.int .i64 t1175, v1184]), (g2, 25, [.int .i64 t17, v21])], [(v1493, 34, 4, r1488.map enc33), (v1495, 34, 4, r1489.map enc33), (v1184, 34, 4, r1176.map enc33)]⟩) (True) ?_ ?_
      · refine VC.draw ⟨0, [], [], [(g3857, 46, [.int .i64 t3850, v3856, .int .i64 t3852, .int .i64 t3853]), (g2, 25, [.int .i64 t17, v21])], []⟩ (by kernel_rfl) rfl (by kernel_rfl) (n := 28) (listed := LB 28 0) ?_
        refine VA.va (i := 0) (listed' := LB 28 1) rfl (op_load 1 2 rfl rfl TI25 rfl (fun h => absurd h (by decide)) (ltn rfl)) rfl (by kernel_rfl) (by kernel_rfl) (by kernel_rfl) (by kernel_rfl) ⟨trivial, ⟨⟨0, rfl⟩, ⟨7, rfl⟩, trivial⟩, trivial⟩ (fun _ _ _ h => h) ?_
        refine VA.va (i := 2) (listed' := LB 28 5) rfl (op_load 1 2 rfl rfl TI25 rfl (fun h => absurd h (by decide)) (ltn rfl)) rfl (by kernel_rfl) (by kernel_rfl) (by kernel_rfl) (by kernel_rfl) ⟨trivial, ⟨⟨0, rfl⟩, ⟨7, rfl⟩, trivial⟩, trivial⟩ (fun _ _ _ h => h) ?_
        refine VA.oneC (i := 1) (listed' := LB 28 7) (by kernel_rfl) rfl (o_call0 FO8 (outbox_Right.ok k t17 r18 v21 t4015 hA4016) rfl rfl (ltn rfl) (All_of (.cons (List.mem_of_getElem? (i := 1) rfl) .nil))) rfl (by kernel_rfl) ?_
        rintro _ _ _ ⟨rfl, rfl, rfl⟩
        refine ⟨⟨trivial, ⟨⟨0, rfl⟩, ⟨7, rfl⟩, trivial⟩, trivial⟩, ?_⟩
        refine VA.oneC (i := 3) (listed' := LB 28 15) (by kernel_rfl) rfl (o_call0 FO13 (tarryref14_Right.ok k t17 r18 v21 t4017 hA4018) rfl rfl (ltn rfl) (All_of (.cons (List.mem_of_getElem? (i := 1) rfl) .nil))) rfl (by kernel_rfl) ?_
        rintro _ _ _ ⟨rfl, rfl, rfl⟩
        refine ⟨⟨trivial, ⟨⟨0, rfl⟩, ⟨7, rfl⟩, trivial⟩, trivial⟩, ?_⟩
        refine VA.va (i := 4) (listed' := LB 28 31) rfl (op_eqb Try.underlying4 rfl rfl (congrArg some hb4019) (ltn rfl)) rfl (by kernel_rfl) (by kernel_rfl) (by kernel_rfl) (by kernel_rfl) ⟨trivial, ⟨⟨0, rfl⟩, ⟨7, rfl⟩, trivial⟩, trivial⟩ (fun _ _ _ h => h) ?_
        refine VA.va (i := 5) (listed' := LB 28 63) rfl (op_move rfl (ltn rfl)) rfl (by kernel_rfl) (by kernel_rfl) (by kernel_rfl) (by kernel_rfl) ⟨trivial, ⟨⟨0, rfl⟩, ⟨7, rfl⟩, trivial⟩, trivial⟩ (fun _ _ _ h => h) ?_
        refine VA.va (i := 6) (listed' := LB 28 127) rfl (op_move rfl (ltn rfl)) rfl (by kernel_rfl) (by kernel_rfl) (by kernel_rfl) (by kernel_rfl) ⟨trivial, ⟨⟨0, rfl⟩, ⟨7, rfl⟩, trivial⟩, trivial⟩ (fun _ _ _ h => h) ?_
        refine VA.va (i := 7) (listed' := LB 28 255) rfl (op_fieldAddr FI46_2 rfl (add_at _ _ _) (ltn rfl)) rfl (by kernel_rfl) (by kernel_rfl) (by kernel_rfl) (by kernel_rfl) ⟨trivial, ⟨⟨0, rfl⟩, ⟨7, rfl⟩, trivial⟩, trivial⟩ (fun _ _ _ h => h) ?_
        refine VA.va (i := 8) (listed' := LB 28 511) rfl (op_load 0 1 rfl rfl TI30 rfl (by decide) (ltn rfl)) rfl (by kernel_rfl) (by kernel_rfl) (by kernel_rfl) (by kernel_rfl) ⟨trivial, ⟨⟨0, rfl⟩, ⟨7, rfl⟩, trivial⟩, trivial⟩ (fun _ _ _ h => h) ?_
        refine VA.va (i := 9) (listed' := LB 28 1023) rfl (op_cmp rfl rfl (congrArg some hb4021) (ltn rfl)) rfl (by kernel_rfl) (by kernel_rfl) (by kernel_rfl) (by kernel_rfl) ⟨trivial, ⟨⟨0, rfl⟩, ⟨7, rfl⟩, trivial⟩, trivial⟩ (fun _ _ _ h => h) ?_
        refine VA.va (i := 10) (listed' := LB 28 2047) rfl (op_pick rfl rfl (ltn rfl)) rfl (by kernel_rfl) (by kernel_rfl) (by kernel_rfl) (by kernel_rfl) ⟨trivial, ⟨⟨0, rfl⟩, ⟨7, rfl⟩, trivial⟩, trivial⟩ (fun _ _ _ h => h) ?_
        refine VA.va (i := 11) (listed' := LB 28 4095) rfl (op_move rfl (ltn rfl)) rfl (by kernel_rfl) (by kernel_rfl) (by kernel_rfl) (by kernel_rfl) ⟨trivial, ⟨⟨0, rfl⟩, ⟨7, rfl⟩, trivial⟩, trivial⟩ (fun _ _ _ h => h) ?_
        refine VA.un (i := 12) (listed' := LB 28 8191) rfl rfl rfl (ltn rfl) (by kernel_rfl) (by kernel_rfl) (by kernel_rfl) (by kernel_rfl) ⟨trivial, ⟨⟨0, rfl⟩, ⟨7, rfl⟩, trivial⟩, trivial⟩ (fun _ _ _ h => h) ?_
        refine VA.un (i := 13) (listed' := LB 28 16383) rfl rfl rfl (ltn rfl) (by kernel_rfl) (by kernel_rfl) (by kernel_rfl) (by kernel_rfl) ⟨trivial, ⟨⟨0, rfl⟩, ⟨7, rfl⟩, trivial⟩, trivial⟩ (fun _ _ _ h => h) ?_
        refine VA.un (i := 14) (listed' := LB 28 32767) rfl rfl rfl (ltn rfl) (by kernel_rfl) (by kernel_rfl) (by kernel_rfl) (by kernel_rfl) ⟨trivial, ⟨⟨0, rfl⟩, ⟨7, rfl⟩, trivial⟩, trivial⟩ (fun _ _ _ h => h) ?_
        refine VA.un (i := 15) (listed' := LB 28 65535) rfl rfl rfl (ltn rfl) (by kernel_rfl) (by kernel_rfl) (by kernel_rfl) (by kernel_rfl) ⟨trivial, ⟨⟨0, rfl⟩, ⟨7, rfl⟩, trivial⟩, trivial⟩ (fun _ _ _ h => h) ?_
        refine VA.va (i := 16) (listed' := LB 28 131071) rfl (op_pick rfl rfl (ltn rfl)) rfl (by kernel_rfl) (by kernel_rfl) (by kernel_rfl) (by kernel_rfl) ⟨trivial, ⟨⟨0, rfl⟩, ⟨7, rfl⟩, trivial⟩, trivial⟩ (fun _ _ _ h => h) ?_
        refine VA.va (i := 17) (listed' := LB 28 262143) rfl (op_move rfl (ltn rfl)) rfl (by kernel_rfl) (by kernel_rfl) (by kernel_rfl) (by kernel_rfl) ⟨trivial, ⟨⟨0, rfl⟩, ⟨7, rfl⟩, trivial⟩, trivial⟩ (fun _ _ _ h => h) ?_
        refine VA.un (i := 18) (listed' := LB 28 524287) rfl rfl rfl (ltn rfl) (by kernel_rfl) (by kernel_rfl) (by kernel_rfl) (by kernel_rfl) ⟨trivial, ⟨⟨0, rfl⟩, ⟨7, rfl⟩, trivial⟩, trivial⟩ (fun _ _ _ h => h) ?_
        refine VA.un (i := 19) (listed' := LB 28 1048575) rfl rfl rfl (ltn rfl) (by kernel_rfl) (by kernel_rfl) (by kernel_rfl) (by kernel_rfl) ⟨trivial, ⟨⟨0, rfl⟩, ⟨7, rfl⟩, trivial⟩, trivial⟩ (fun _ _ _ h => h) ?_
        refine VA.un (i := 20) (listed' := LB 28 2097151) rfl rfl rfl (ltn rfl) (by kernel_rfl) (by kernel_rfl) (by kernel_rfl) (by kernel_rfl) ⟨trivial, ⟨⟨0, rfl⟩, ⟨7, rfl⟩, trivial⟩, trivial⟩ (fun _ _ _ h => h) ?_
        refine VA.un (i := 21) (listed' := LB 28 4194303) rfl rfl rfl (ltn rfl) (by kernel_rfl) (by kernel_rfl) (by kernel_rfl) (by kernel_rfl) ⟨trivial, ⟨⟨0, rfl⟩, ⟨7, rfl⟩, trivial⟩, trivial⟩ (fun _ _ _ h => h) ?_
        refine VA.un (i := 22) (listed' := LB 28 8388607) rfl rfl rfl (ltn rfl) (by kernel_rfl) (by kernel_rfl) (by kernel_rfl) (by kernel_rfl) ⟨trivial, ⟨⟨0, rfl⟩, ⟨7, rfl⟩, trivial⟩, trivial⟩ (fun _ _ _ h => h) ?_
        refine VA.va (i := 23) (listed' := LB 28 16777215) rfl (op_pick rfl rfl (ltn rfl)) rfl (by kernel_rfl) (by kernel_rfl) (by kernel_rfl) (by kernel_rfl) ⟨trivial, ⟨⟨0, rfl⟩, ⟨7, rfl⟩, trivial⟩, trivial⟩ (fun _ _ _ h => h) ?_
        refine VA.va (i := 24) (listed' := LB 28 33554431) rfl (op_move rfl (ltn rfl)) rfl (by kernel_rfl) (by kernel_rfl) (by kernel_rfl) (by kernel_rfl) ⟨trivial, ⟨⟨0, rfl⟩, ⟨7, rfl⟩, trivial⟩, trivial⟩ (fun _ _ _ h => h) ?_
        refine VA.un (i := 25) (listed' := LB 28 67108863) rfl rfl rfl (ltn rfl) (by kernel_rfl) (by kernel_rfl) (by kernel_rfl) (by kernel_rfl) ⟨trivial, ⟨⟨0, rfl⟩, ⟨7, rfl⟩, trivial⟩, trivial⟩ (fun _ _ _ h => h) ?_
        refine VA.un (i := 26) (listed' := LB 28 134217727) rfl rfl rfl (ltn rfl) (by kernel_rfl) (by kernel_rfl) (by kernel_rfl) (by kernel_rfl) ⟨trivial, ⟨⟨0, rfl⟩, ⟨7, rfl⟩, trivial⟩, trivial⟩ (fun _ _ _ h => h) ?_
        refine VA.va (i := 27) (listed' := LB 28 268435455) rfl (op_pick rfl rfl (ltn rfl)) rfl (by kernel_rfl) (by kernel_rfl) (by kernel_rfl) (by kernel_rfl) ⟨trivial, ⟨⟨0, rfl⟩, ⟨7, rfl⟩, trivial⟩, trivial⟩ (fun _ _ _ h => h) ?_
        refine VA.done (by kernel_rfl) ?_
        exact VN.meet0  [1, 2, 3, 4, 5, 7] [1, 2, 3] trivial ⟨rfl, ⟨rfl, rfl, rfl, rfl, rfl, rfl, rfl, rfl, rfl, rfl, rfl, rfl, rfl, rfl, rfl, rfl, trivial⟩, ⟨⟨1, rfl⟩, trivial⟩, rfl, by decide, rfl, by decide⟩
      intro _
      refine VC.cond_t rfl ?_
      refine VC.seq ?_
      refine VC.region ?_
      refine VL.va (op_assign rfl (ltn rfl)) rfl ?_
      refine VL.done ?_
      refine VN.then ?_
      refine VC.ret ?_
      refine VR.then ?_
      cases h
  · rw [if_neg c4020] at h
    obtain rfl : b4019 = true := hb4019.symm.trans (by simpa using c4020)
    refine VC.join0 (⟨224, [(1, .int .i64 a1), (2, .int .i64 a2), (3, .int .i64 a3), (4, .int .i64 a4), (5, .pointer (some ⟨g2, 0, none⟩)), (10, .bool false), (14, .pointer (some ⟨g1185, 0, none⟩)), (15, .pointer (some ⟨g1186, 0, none⟩)), (16, .int .i64 t1181), (17, .pointer (some ⟨g1223, 0, none⟩)), (18, .int .i64 t1221), (19, .pointer (some ⟨g1496, 0, none⟩)), (20, v1495), (21, .int .i64 t1490), (22, .pointer (some ⟨g1497, 0, none⟩)), (91, .bool true)], [.row v21 4 (r18.map enc33)], [(g1497, 25, [.int .i64 0, .slice none 0 0]), (g1496, 25, [.int .i64 t1487, v1493]), (g1223, 34, [.int .i64 t1217, .int .i64 t1218, .int .i64 t1219, .int .i64 t1220]), (g1186, 34, [.int .i64 t1177, .int .i64 t1178, .int .i64 t1179, .int .i64 t1180]), (g1185, 25, [.int .i64 t1175, v1184]), (g2, 25, [.int .i64 t17, v21])], [(v1493, 34, 4, r1488.map enc33), (v1495, 34, 4, r1489.map enc33), (v1184, 34, 4, r1176.map enc33)]⟩) (True) ?_ ?_
    · refine VC.draw ⟨0, [], [], [(g2, 25, [.int .i64 t17, v21])], []⟩ (by kernel_rfl) rfl (by kernel_rfl) (n := 28) (listed := LB 28 0) ?_
      refine VA.va (i := 0) (listed' := LB 28 1) rfl (op_load 0 2 rfl rfl TI25 rfl (fun h => absurd h (by decide)) (ltn rfl)) rfl (by kernel_rfl) (by kernel_rfl) (by kernel_rfl) (by kernel_rfl) ⟨trivial, ⟨⟨7, rfl⟩, trivial⟩, trivial⟩ (fun _ _ _ h => h) ?_
      refine VA.va (i := 2) (listed' := LB 28 5) rfl (op_load 0 2 rfl rfl TI25 rfl (fun h => absurd h (by decide)) (ltn rfl)) rfl (by kernel_rfl) (by kernel_rfl) (by kernel_rfl) (by kernel_rfl) ⟨trivial, ⟨⟨7, rfl⟩, trivial⟩, trivial⟩ (fun _ _ _ h => h) ?_
      refine VA.oneC (i := 1) (listed' := LB 28 7) (by kernel_rfl) rfl (o_call0 FO8 (outbox_Right.ok k t17 r18 v21 t4015 hA4016) rfl rfl (ltn rfl) (All_of (.cons (List.mem_of_getElem? (i := 1) rfl) .nil))) rfl (by kernel_rfl) ?_
      rintro _ _ _ ⟨rfl, rfl, rfl⟩
      refine ⟨⟨trivial, ⟨⟨7, rfl⟩, trivial⟩, trivial⟩, ?_⟩
      refine VA.oneC (i := 3) (listed' := LB 28 15) (by kernel_rfl) rfl (o_call0 FO13 (tarryref14_Right.ok k t17 r18 v21 t4017 hA4018) rfl rfl (ltn rfl) (All_of (.cons (List.mem_of_getElem? (i := 1) rfl) .nil))) rfl (by kernel_rfl) ?_
      rintro _ _ _ ⟨rfl, rfl, rfl⟩
      refine ⟨⟨trivial, ⟨⟨7, rfl⟩, trivial⟩, trivial⟩, ?_⟩
      refine VA.va (i := 4) (listed' := LB 28 31) rfl (op_eqb Try.underlying4 rfl rfl (congrArg some hb4019) (ltn rfl)) rfl (by kernel_rfl) (by kernel_rfl) (by kernel_rfl) (by kernel_rfl) ⟨trivial, ⟨⟨7, rfl⟩, trivial⟩, trivial⟩ (fun _ _ _ h => h) ?_
      refine VA.va (i := 5) (listed' := LB 28 63) rfl (op_move rfl (ltn rfl)) rfl (by kernel_rfl) (by kernel_rfl) (by kernel_rfl) (by kernel_rfl) ⟨trivial, ⟨⟨7, rfl⟩, trivial⟩, trivial⟩ (fun _ _ _ h => h) ?_
      refine VA.un (i := 6) (listed' := LB 28 127) rfl rfl rfl (ltn rfl) (by kernel_rfl) (by kernel_rfl) (by kernel_rfl) (by kernel_rfl) ⟨trivial, ⟨⟨7, rfl⟩, trivial⟩, trivial⟩ (fun _ _ _ h => h) ?_
      refine VA.un (i := 7) (listed' := LB 28 255) rfl rfl rfl (ltn rfl) (by kernel_rfl) (by kernel_rfl) (by kernel_rfl) (by kernel_rfl) ⟨trivial, ⟨⟨7, rfl⟩, trivial⟩, trivial⟩ (fun _ _ _ h => h) ?_
      refine VA.un (i := 8) (listed' := LB 28 511) rfl rfl rfl (ltn rfl) (by kernel_rfl) (by kernel_rfl) (by kernel_rfl) (by kernel_rfl) ⟨trivial, ⟨⟨7, rfl⟩, trivial⟩, trivial⟩ (fun _ _ _ h => h) ?_
      refine VA.un (i := 9) (listed' := LB 28 1023) rfl rfl rfl (ltn rfl) (by kernel_rfl) (by kernel_rfl) (by kernel_rfl) (by kernel_rfl) ⟨trivial, ⟨⟨7, rfl⟩, trivial⟩, trivial⟩ (fun _ _ _ h => h) ?_
      refine VA.va (i := 10) (listed' := LB 28 2047) rfl (op_pick rfl rfl (ltn rfl)) rfl (by kernel_rfl) (by kernel_rfl) (by kernel_rfl) (by kernel_rfl) ⟨trivial, ⟨⟨7, rfl⟩, trivial⟩, trivial⟩ (fun _ _ _ h => h) ?_
      refine VA.va (i := 11) (listed' := LB 28 4095) rfl (op_move rfl (ltn rfl)) rfl (by kernel_rfl) (by kernel_rfl) (by kernel_rfl) (by kernel_rfl) ⟨trivial, ⟨⟨7, rfl⟩, trivial⟩, trivial⟩ (fun _ _ _ h => h) ?_
      refine VA.un (i := 12) (listed' := LB 28 8191) rfl rfl rfl (ltn rfl) (by kernel_rfl) (by kernel_rfl) (by kernel_rfl) (by kernel_rfl) ⟨trivial, ⟨⟨7, rfl⟩, trivial⟩, trivial⟩ (fun _ _ _ h => h) ?_
      refine VA.un (i := 13) (listed' := LB 28 16383) rfl rfl rfl (ltn rfl) (by kernel_rfl) (by kernel_rfl) (by kernel_rfl) (by kernel_rfl) ⟨trivial, ⟨⟨7, rfl⟩, trivial⟩, trivial⟩ (fun _ _ _ h => h) ?_
      refine VA.un (i := 14) (listed' := LB 28 32767) rfl rfl rfl (ltn rfl) (by kernel_rfl) (by kernel_rfl) (by kernel_rfl) (by kernel_rfl) ⟨trivial, ⟨⟨7, rfl⟩, trivial⟩, trivial⟩ (fun _ _ _ h => h) ?_
      refine VA.un (i := 15) (listed' := LB 28 65535) rfl rfl rfl (ltn rfl) (by kernel_rfl) (by kernel_rfl) (by kernel_rfl) (by kernel_rfl) ⟨trivial, ⟨⟨7, rfl⟩, trivial⟩, trivial⟩ (fun _ _ _ h => h) ?_
      refine VA.va (i := 16) (listed' := LB 28 131071) rfl (op_pick rfl rfl (ltn rfl)) rfl (by kernel_rfl) (by kernel_rfl) (by kernel_rfl) (by kernel_rfl) ⟨trivial, ⟨⟨7, rfl⟩, trivial⟩, trivial⟩ (fun _ _ _ h => h) ?_
      refine VA.va (i := 17) (listed' := LB 28 262143) rfl (op_move rfl (ltn rfl)) rfl (by kernel_rfl) (by kernel_rfl) (by kernel_rfl) (by kernel_rfl) ⟨trivial, ⟨⟨7, rfl⟩, trivial⟩, trivial⟩ (fun _ _ _ h => h) ?_
      refine VA.un (i := 18) (listed' := LB 28 524287) rfl rfl rfl (ltn rfl) (by kernel_rfl) (by kernel_rfl) (by kernel_rfl) (by kernel_rfl) ⟨trivial, ⟨⟨7, rfl⟩, trivial⟩, trivial⟩ (fun _ _ _ h => h) ?_
      refine VA.un (i := 19) (listed' := LB 28 1048575) rfl rfl rfl (ltn rfl) (by kernel_rfl) (by kernel_rfl) (by kernel_rfl) (by kernel_rfl) ⟨trivial, ⟨⟨7, rfl⟩, trivial⟩, trivial⟩ (fun _ _ _ h => h) ?_
      refine VA.un (i := 20) (listed' := LB 28 2097151) rfl rfl rfl (ltn rfl) (by kernel_rfl) (by kernel_rfl) (by kernel_rfl) (by kernel_rfl) ⟨trivial, ⟨⟨7, rfl⟩, trivial⟩, trivial⟩ (fun _ _ _ h => h) ?_
      refine VA.un (i := 21) (listed' := LB 28 4194303) rfl rfl rfl (ltn rfl) (by kernel_rfl) (by kernel_rfl) (by kernel_rfl) (by kernel_rfl) ⟨trivial, ⟨⟨7, rfl⟩, trivial⟩, trivial⟩ (fun _ _ _ h => h) ?_
      refine VA.un (i := 22) (listed' := LB 28 8388607) rfl rfl rfl (ltn rfl) (by kernel_rfl) (by kernel_rfl) (by kernel_rfl) (by kernel_rfl) ⟨trivial, ⟨⟨7, rfl⟩, trivial⟩, trivial⟩ (fun _ _ _ h => h) ?_
      refine VA.va (i := 23) (listed' := LB 28 16777215) rfl (op_pick rfl rfl (ltn rfl)) rfl (by kernel_rfl) (by kernel_rfl) (by kernel_rfl) (by kernel_rfl) ⟨trivial, ⟨⟨7, rfl⟩, trivial⟩, trivial⟩ (fun _ _ _ h => h) ?_
      refine VA.va (i := 24) (listed' := LB 28 33554431) rfl (op_move rfl (ltn rfl)) rfl (by kernel_rfl) (by kernel_rfl) (by kernel_rfl) (by kernel_rfl) ⟨trivial, ⟨⟨7, rfl⟩, trivial⟩, trivial⟩ (fun _ _ _ h => h) ?_
      refine VA.un (i := 25) (listed' := LB 28 67108863) rfl rfl rfl (ltn rfl) (by kernel_rfl) (by kernel_rfl) (by kernel_rfl) (by kernel_rfl) ⟨trivial, ⟨⟨7, rfl⟩, trivial⟩, trivial⟩ (fun _ _ _ h => h) ?_
      refine VA.un (i := 26) (listed' := LB 28 134217727) rfl rfl rfl (ltn rfl) (by kernel_rfl) (by kernel_rfl) (by kernel_rfl) (by kernel_rfl) ⟨trivial, ⟨⟨7, rfl⟩, trivial⟩, trivial⟩ (fun _ _ _ h => h) ?_
      refine VA.va (i := 27) (listed' := LB 28 268435455) rfl (op_pick rfl rfl (ltn rfl)) rfl (by kernel_rfl) (by kernel_rfl) (by kernel_rfl) (by kernel_rfl) ⟨trivial, ⟨⟨7, rfl⟩, trivial⟩, trivial⟩ (fun _ _ _ h => h) ?_
      refine VA.done (by kernel_rfl) ?_
      exact VN.meet0  [1, 2, 3, 4, 5, 7] [1, 2, 3] trivial ⟨rfl, ⟨rfl, rfl, rfl, rfl, rfl, rfl, rfl, rfl, rfl, rfl, rfl, rfl, rfl, rfl, rfl, rfl, trivial⟩, ⟨⟨1, rfl⟩, trivial⟩, rfl, by decide, rfl, by decide⟩
    intro _
    refine VC.cond_t rfl ?_
    refine VC.seq ?_
    refine VC.region ?_
    refine VL.va (op_assign rfl (ltn rfl)) rfl ?_
    refine VL.done ?_
    refine VN.then ?_
    refine VC.ret ?_
    refine VR.then ?_
    cases h

end Go.Proofs.Ytapdeoioenblfaa.POutboxGoes
