/- Written by a program of this repo: what the program's functions do, each as a Lean function, shown of the loaded code; or a statement's row over that; no condition of its own. -/
import Derived.Test.YtibpoajlnloloaaPStockKeepsx6
namespace Go.Proofs.Ytibpoajlnloloaa.PStockKeeps
open Go Go.RowKit Go.Proofs.YtibpoajlnloloaaV
set_option linter.unusedVariables false
set_option linter.unusedSimpArgs false

set_option maxHeartbeats 4000000 in
set_option maxRecDepth 100000 in
theorem tarrylaw08_StockKeeps.ok (k : Nat) (l0 : List S25) (v0 : Value) (r1 : Bool) (h : tarrylaw08_StockKeeps.f k l0 = some r1) :
    VCalls Try.prog 3 [v0] [.row v0 3 (l0.map enc25)] (fun v G own => v = .bool r1 ∧ G = [] ∧ own = []) := by
  refine VCalls.intro Try.func3 rfl (len rfl) fun E hC hW hD hU => ?_
  unfold tarrylaw08_StockKeeps.f at h
  refine VC.seq ?_
  refine VC.region ?_
  refine VL.va (op_assign rfl (ltn rfl)) rfl ?_
  refine VL.done ?_
  refine VN.then ?_
  refine VC.seq ?_
  refine VC.region ?_
  refine VL.va (op_assign rfl (ltn rfl)) rfl ?_
  refine VL.done ?_
  refine VN.then ?_
  refine VC.seq ?_
  refine VC.region ?_
  refine VL.newM (o_makeMap (K := ByteArray) (V := Int) (ke := mS) (ve := mI) (ltn rfl)) rfl ?_
  intro g2 hbg2 hnewg2
  clear hnewg2
  refine VL.newM (o_makeMap (K := ByteArray) (V := Int) (ke := mS) (ve := mI) (ltn rfl)) rfl ?_
  intro g3 hbg3 hnewg3
  have hne_g2_g3 := (hnewg3 _ (List.mem_of_getElem? (i := 0) rfl)).1
  clear hnewg3
  refine VL.newM (o_makeMap (K := ByteArray) (V := Int) (ke := mS) (ve := mI) (ltn rfl)) rfl ?_
  intro g4 hbg4 hnewg4
  have hne_g3_g4 := (hnewg4 _ (List.mem_of_getElem? (i := 0) rfl)).1
  have hne_g2_g4 := (hnewg4 _ (List.mem_of_getElem? (i := 1) rfl)).1
  clear hnewg4
  refine VL.va (op_assign rfl (ltn rfl)) rfl ?_
  refine VL.va (op_assign rfl (ltn rfl)) rfl ?_
  refine VL.va (op_assign rfl (ltn rfl)) rfl ?_
  refine VL.done ?_
  refine VN.then ?_
  refine VC.join5 (fun (v8045 : Value) (l8046 : List S32) (mp8047 : List (ByteArray × Int)) (mp8048 : List (ByteArray × Int)) (mp8049 : List (ByteArray × Int)) => ⟨157, [(2, .bool false), (3, v8045), (4, .map (some g2)), (5, .map (some g3)), (6, .map (some g4))], [.mp g4 (menc mS mI mp8047), .mp g3 (menc mS mI mp8048), .mp g2 (menc mS mI mp8049)], [], [(v8045, 33, 6, l8046.map enc32)]⟩) (fun (v8045 : Value) (l8046 : List S32) (mp8047 : List (ByteArray × Int)) (mp8048 : List (ByteArray × Int)) (mp8049 : List (ByteArray × Int)) => tarrylaw08_StockKeeps.j18 k l8046 mp8047 mp8048 mp8049 = some r1) ?_ ?_
  · refine VC.seq ?_
    refine VC.region ?_
    refine VL.va (op_move rfl (ltn rfl)) rfl ?_
    refine VL.va (op_len (m := l0.length) 3 lenm Try.underlying22 rfl rfl (ltn rfl)) rfl ?_
    refine VL.va (op_move rfl (ltn rfl)) rfl ?_
    refine VL.done ?_
    refine VN.then ?_
    refine VC.block ?_
    refine VC.nilRow' 33 6 ?_
    refine VC.loop6 (fun (v7227 : Value) (l7228 : List S32) (i7230 : Int) (mp7231 : List (ByteArray × Int)) (mp7232 : List (ByteArray × Int)) (mp7233 : List (ByteArray × Int)) => ⟨157, [(2, .bool false), (3, v7227), (4, .map (some g2)), (5, .map (some g3)), (6, .map (some g4)), (19, v0), (20, .int .i64 (l0.length : Int)), (21, .int .i64 i7230)], [.mp g4 (menc mS mI mp7231), .mp g3 (menc mS mI mp7232), .mp g2 (menc mS mI mp7233), .row v0 3 (l0.map enc25)], [], [(v7227, 33, 6, l7228.map enc32)]⟩) (fun (ml19 : Nat) (v7227 : Value) (l7228 : List S32) (i7230 : Int) (mp7231 : List (ByteArray × Int)) (mp7232 : List (ByteArray × Int)) (mp7233 : List (ByteArray × Int)) => tarrylaw08_StockKeeps.l19 k l0 ml19 l7228 i7230 mp7231 mp7232 mp7233 = some r1) k (.slice none 0 0) ([] : List S32) 0 ([] : List (ByteArray × Int)) ([] : List (ByteArray × Int)) ([] : List (ByteArray × Int)) [] [0] h ⟨rfl, ⟨rfl, rfl, rfl, rfl, rfl, rfl, rfl, rfl, trivial⟩, ⟨⟨0, rfl⟩, ⟨1, rfl⟩, ⟨2, rfl⟩, ⟨3, rfl⟩, trivial⟩, rfl, by decide, rfl, by decide⟩ (by intros; simp [tarrylaw08_StockKeeps.l19]) ?_
    clear h
    intro ml19 ihl19 v7227 l7228 i7230 mp7231 mp7232 mp7233 h
    simp only [tarrylaw08_StockKeeps.l19] at h
    refine VC.seq ?_
    refine VC.region ?_
    refine VL.letter (decide (i7230 < (l0.length : Int))) fun b7639 hb7639 => ?_
    refine VL.va (op_cmp rfl rfl (congrArg some hb7639) (ltn rfl)) rfl ?_
    refine VL.done ?_
    refine VN.then ?_
    refine VC.seq ?_
    by_cases c7641 : i7230 < (l0.length : Int)
    · rw [if_pos c7641] at h
      obtain rfl : b7639 = true := hb7639.symm.trans (decide_eq_true c7641)
      refine VC.cond_t rfl ?_
      refine VC.skip ?_
      refine VN.then ?_
      refine VC.seq ?_
      refine VC.block ?_
      refine VC.seq ?_
      refine VC.region ?_
      refine VL.va (op_move rfl (ltn rfl)) rfl ?_
      by_cases c7843 : 0 ≤ i7230
      · rw [if_pos c7843] at h
        replace h := Option.bind_eq_some_iff.1 h
        obtain ⟨x7844, hx7844, h⟩ := h
        refine VL.open (m := l0.length) 3 lenm rfl (pos_get hx7844) ?_
        rintro ad7845 n7846 rfl
        refine VL.va (op_indexAddr Try.underlying22 TI26 rfl rfl c7843 (lt_get c7843 hx7844) rfl (ltn rfl)) rfl ?_
        refine VL.va (op_load_row (sz := 3) (o := 0) 3 i7230.toNat 3 rfl rfl (get_map hx7844) TI26 rfl (fun h => absurd h (by decide)) (ltn rfl)) rfl ?_
        refine VL.sG (o_alloc Z26 ZL26 (ltn rfl)) rfl ?_
        intro g7847
        refine VL.va (op_assign rfl (ltn rfl)) rfl ?_
        refine VL.step1 (o_store 0 3 rfl rfl rfl TI26 (.agg (.of rfl)) rfl (len rfl)) rfl ?_
        refine VL.done ?_
        refine VN.then ?_
        refine VC.seq ?_
        refine VC.seq ?_
        refine VC.region ?_
        refine VL.va (op_move rfl (ltn rfl)) rfl ?_
        refine VL.letter (decide (i7230 ≥ 30)) fun b7850 hb7850 => ?_
        refine VL.va (op_cmp rfl rfl (congrArg some hb7850) (ltn rfl)) rfl ?_
        refine VL.done ?_
        refine VN.then ?_
        by_cases c7851 : i7230 ≥ 30
        · rw [if_pos c7851] at h
          obtain rfl : b7850 = true := hb7850.symm.trans (decide_eq_true c7851)
          refine VC.cond_t rfl ?_
          refine VC.exit ?_
          refine VX.then ?_
          refine VX.miss (by decide) ?_
          refine VX.then ?_
          refine VX.then ?_
          refine VX.hit ?_
          refine VN.meet5 v7227 l7228 mp7231 mp7232 mp7233 [] [0] h ⟨rfl, ⟨rfl, rfl, rfl, rfl, rfl, trivial⟩, ⟨⟨0, rfl⟩, ⟨1, rfl⟩, ⟨2, rfl⟩, trivial⟩, rfl, by decide, rfl, by decide⟩
        · rw [if_neg c7851] at h
          obtain rfl : b7850 = false := hb7850.symm.trans (decide_eq_false c7851)
          refine VC.cond_f rfl ?_
          refine VC.skip ?_
          refine VN.then ?_
          by_cases c7852 : 0 ≤ mn (x7844.f1.size : Int) 18
          · rw [if_pos c7852] at h
            by_cases c7853 : (mn (x7844.f1.size : Int) 18) ≤ (x7844.f1.size : Int)
            · rw [if_pos c7853] at h
              refine VC.join0 (⟨157, [(2, .bool false), (3, v7227), (4, .map (some g2)), (5, .map (some g3)), (6, .map (some g4)), (7, .int .i64 i7230), (8, .pointer (some ⟨g7847, 0, none⟩)), (9, .string (x7844.f1.extract 0 ((mn (x7844.f1.size : Int) 18).toNat))), (10, .int .i64 x7844.f2), (11, .int .i64 ((wrap64 ((x7844.f0.tmod 5) + 5)).tmod 5)), (19, (.slice (some ad7845) l0.length n7846)), (20, .int .i64 (l0.length : Int)), (21, .int .i64 i7230), (22, .bool true), (23, .int .i64 i7230), (25, .agg #[.int .i64 x7844.f0, .string x7844.f1, .int .i64 x7844.f2]), (26, .int .i64 i7230), (27, .bool false), (28, .pointer (some ⟨g7847, 1, none⟩)), (29, .string x7844.f1), (30, .pointer (some ⟨g7847, 1, none⟩)), (31, .string x7844.f1), (32, .int .i64 (x7844.f1.size : Int)), (33, .int .i64 (mn (x7844.f1.size : Int) 18)), (34, .string (x7844.f1.extract 0 ((mn (x7844.f1.size : Int) 18).toNat))), (35, .pointer (some ⟨g7847, 2, none⟩)), (36, .int .i64 x7844.f2), (37, .pointer (some ⟨g7847, 0, none⟩)), (38, .int .i64 x7844.f0), (39, .int .i64 (x7844.f0.tmod 5)), (40, .int .i64 (wrap64 ((x7844.f0.tmod 5) + 5))), (41, .int .i64 ((wrap64 ((x7844.f0.tmod 5) + 5)).tmod 5))], [.mp g4 (menc mS mI mp7231), .mp g3 (menc mS mI mp7232), .mp g2 (menc mS mI mp7233), .row (.slice (some ad7845) l0.length n7846) 3 (l0.map enc25)], [(g7847, 26, [.int .i64 x7844.f0, .string x7844.f1, .int .i64 x7844.f2])], [(v7227, 33, 6, l7228.map enc32)]⟩) (True) ?_ ?_
              · refine VC.draw ⟨0, [], [], [(g7847, 26, [.int .i64 x7844.f0, .string x7844.f1, .int .i64 x7844.f2])], []⟩ (by kernel_rfl) rfl (by kernel_rfl) (n := 17) (listed := LB 17 0) ?_
                refine VA.va (i := 0) (listed' := LB 17 1) rfl (op_fieldAddr FI26_1 rfl (add_at _ _ _) (ltn rfl)) rfl (by kernel_rfl) (by kernel_rfl) (by kernel_rfl) (by kernel_rfl) ⟨trivial, ⟨⟨0, rfl⟩, trivial⟩, trivial⟩ (fun _ _ _ h => h) ?_
                refine VA.va (i := 1) (listed' := LB 17 3) rfl (op_load 0 1 rfl rfl TI9 rfl (by decide) (ltn rfl)) rfl (by kernel_rfl) (by kernel_rfl) (by kernel_rfl) (by kernel_rfl) ⟨trivial, ⟨⟨0, rfl⟩, trivial⟩, trivial⟩ (fun _ _ _ h => h) ?_
                refine VA.va (i := 2) (listed' := LB 17 7) rfl (op_fieldAddr FI26_1 rfl (add_at _ _ _) (ltn rfl)) rfl (by kernel_rfl) (by kernel_rfl) (by kernel_rfl) (by kernel_rfl) ⟨trivial, ⟨⟨0, rfl⟩, trivial⟩, trivial⟩ (fun _ _ _ h => h) ?_
                refine VA.va (i := 3) (listed' := LB 17 15) rfl (op_load 0 1 rfl rfl TI9 rfl (by decide) (ltn rfl)) rfl (by kernel_rfl) (by kernel_rfl) (by kernel_rfl) (by kernel_rfl) ⟨trivial, ⟨⟨0, rfl⟩, trivial⟩, trivial⟩ (fun _ _ _ h => h) ?_
                refine VA.va (i := 4) (listed' := LB 17 31) rfl (op_lens Try.underlying9 rfl (ltn rfl)) rfl (by kernel_rfl) (by kernel_rfl) (by kernel_rfl) (by kernel_rfl) ⟨trivial, ⟨⟨0, rfl⟩, trivial⟩, trivial⟩ (fun _ _ _ h => h) ?_
                refine VA.va (i := 5) (listed' := LB 17 63) rfl (op_min rfl rfl (ltn rfl)) rfl (by kernel_rfl) (by kernel_rfl) (by kernel_rfl) (by kernel_rfl) ⟨trivial, ⟨⟨0, rfl⟩, trivial⟩, trivial⟩ (fun _ _ _ h => h) ?_
                refine VA.va (i := 6) (listed' := LB 17 127) rfl (op_sliceS 0 ((mn (x7844.f1.size : Int) 18).toNat) Try.underlying9 rfl ⟨rfl, ⟨_, _, rfl, c7852, rfl⟩, by omega, by omega⟩ rfl (ltn rfl)) rfl (by kernel_rfl) (by kernel_rfl) (by kernel_rfl) (by kernel_rfl) ⟨trivial, ⟨⟨0, rfl⟩, trivial⟩, trivial⟩ (fun _ _ _ h => h) ?_
                refine VA.va (i := 7) (listed' := LB 17 255) rfl (op_fieldAddr FI26_2 rfl (add_at _ _ _) (ltn rfl)) rfl (by kernel_rfl) (by kernel_rfl) (by kernel_rfl) (by kernel_rfl) ⟨trivial, ⟨⟨0, rfl⟩, trivial⟩, trivial⟩ (fun _ _ _ h => h) ?_
                refine VA.va (i := 8) (listed' := LB 17 511) rfl (op_load 0 1 rfl rfl TI3 rfl (by decide) (ltn rfl)) rfl (by kernel_rfl) (by kernel_rfl) (by kernel_rfl) (by kernel_rfl) ⟨trivial, ⟨⟨0, rfl⟩, trivial⟩, trivial⟩ (fun _ _ _ h => h) ?_
                refine VA.va (i := 9) (listed' := LB 17 1023) rfl (op_fieldAddr FI26_0 rfl (add_at _ _ _) (ltn rfl)) rfl (by kernel_rfl) (by kernel_rfl) (by kernel_rfl) (by kernel_rfl) ⟨trivial, ⟨⟨0, rfl⟩, trivial⟩, trivial⟩ (fun _ _ _ h => h) ?_
                refine VA.va (i := 10) (listed' := LB 17 2047) rfl (op_load 0 1 rfl rfl TI3 rfl (by decide) (ltn rfl)) rfl (by kernel_rfl) (by kernel_rfl) (by kernel_rfl) (by kernel_rfl) ⟨trivial, ⟨⟨0, rfl⟩, trivial⟩, trivial⟩ (fun _ _ _ h => h) ?_
                refine VA.va (i := 11) (listed' := LB 17 4095) rfl (op_rem rfl rfl (by decide) rfl (ltn rfl)) rfl (by kernel_rfl) (by kernel_rfl) (by kernel_rfl) (by kernel_rfl) ⟨trivial, ⟨⟨0, rfl⟩, trivial⟩, trivial⟩ (fun _ _ _ h => h) ?_
                refine VA.va (i := 12) (listed' := LB 17 8191) rfl (op_ari64 rfl rfl rfl (ltn rfl)) rfl (by kernel_rfl) (by kernel_rfl) (by kernel_rfl) (by kernel_rfl) ⟨trivial, ⟨⟨0, rfl⟩, trivial⟩, trivial⟩ (fun _ _ _ h => h) ?_
                refine VA.va (i := 13) (listed' := LB 17 16383) rfl (op_rem rfl rfl (by decide) rfl (ltn rfl)) rfl (by kernel_rfl) (by kernel_rfl) (by kernel_rfl) (by kernel_rfl) ⟨trivial, ⟨⟨0, rfl⟩, trivial⟩, trivial⟩ (fun _ _ _ h => h) ?_
                refine VA.va (i := 14) (listed' := LB 17 32767) rfl (op_assign rfl (ltn rfl)) rfl (by kernel_rfl) (by kernel_rfl) (by kernel_rfl) (by kernel_rfl) ⟨trivial, ⟨⟨0, rfl⟩, trivial⟩, trivial⟩ (fun _ _ _ h => h) ?_
                refine VA.va (i := 15) (listed' := LB 17 65535) rfl (op_assign rfl (ltn rfl)) rfl (by kernel_rfl) (by kernel_rfl) (by kernel_rfl) (by kernel_rfl) ⟨trivial, ⟨⟨0, rfl⟩, trivial⟩, trivial⟩ (fun _ _ _ h => h) ?_
                refine VA.va (i := 16) (listed' := LB 17 131071) rfl (op_assign rfl (ltn rfl)) rfl (by kernel_rfl) (by kernel_rfl) (by kernel_rfl) (by kernel_rfl) ⟨trivial, ⟨⟨0, rfl⟩, trivial⟩, trivial⟩ (fun _ _ _ h => h) ?_
                refine VA.done (by kernel_rfl) ?_
                exact VN.meet0  [0] [0] trivial ⟨rfl, ⟨rfl, rfl, rfl, rfl, rfl, rfl, rfl, rfl, rfl, rfl, rfl, rfl, rfl, rfl, rfl, rfl, rfl, rfl, rfl, rfl, rfl, rfl, rfl, rfl, rfl, rfl, rfl, rfl, rfl, rfl, rfl, rfl, trivial⟩, ⟨⟨0, rfl⟩, ⟨1, rfl⟩, ⟨2, rfl⟩, ⟨3, rfl⟩, trivial⟩, rfl, by decide, rfl, by decide⟩
              intro _
              refine VC.seq ?_
              refine VC.region ?_
              refine VL.va (op_move rfl (ltn rfl)) rfl ?_
              refine VL.va (op_move rfl (ltn rfl)) rfl ?_
              refine VL.va (op_move rfl (ltn rfl)) rfl ?_
              refine VL.va (op_move rfl (ltn rfl)) rfl ?_
              replace h := Option.bind_eq_some_iff.1 h
              obtain ⟨⟨r7854, t7855⟩, hA7856, h⟩ := h
              dsimp only at h
              refine VL.sC (o_call_b0 FO7 (tarrylaw08_does.ok k l7228 (x7844.f1.extract 0 ((mn (x7844.f1.size : Int) 18).toNat)) x7844.f2 ((wrap64 ((x7844.f0.tmod 5) + 5)).tmod 5) v7227 r7854 t7855 hA7856) rfl rfl (ltn rfl) (All_of (.cons (.inr (.inl ⟨_, List.mem_of_getElem? (i := 0) rfl, rfl⟩)) .nil)) (by rintro _ _ _ ⟨v7858, rfl, rfl, rfl⟩; rfl)) rfl ?_
              rintro _ _ _ ⟨v7858, rfl, rfl, rfl⟩
              refine VL.va (op_move rfl (ltn rfl)) rfl ?_
              refine VL.va (op_extract rfl rfl (ltn rfl)) rfl ?_
              refine VL.va (op_extract rfl rfl (ltn rfl)) rfl ?_
              refine VL.va (op_assign rfl (ltn rfl)) rfl ?_
              refine VL.va (op_assign rfl (ltn rfl)) rfl ?_
              refine VL.done ?_
              refine VN.then ?_
              refine VC.join4 (fun (v7992 : Value) (l7993 : List S32) (i7994 : Int) (q7995 : Bool) => ⟨157, [(2, .bool false), (3, v7227), (4, .map (some g2)), (5, .map (some g3)), (6, .map (some g4)), (7, .int .i64 i7230), (8, .pointer (some ⟨g7847, 0, none⟩)), (9, .string (x7844.f1.extract 0 ((mn (x7844.f1.size : Int) 18).toNat))), (10, .int .i64 x7844.f2), (11, .int .i64 ((wrap64 ((x7844.f0.tmod 5) + 5)).tmod 5)), (12, v7992), (13, .int .i64 i7994), (19, (.slice (some ad7845) l0.length n7846)), (20, .int .i64 (l0.length : Int)), (21, .int .i64 i7230), (22, .bool true), (23, .int .i64 i7230), (25, .agg #[.int .i64 x7844.f0, .string x7844.f1, .int .i64 x7844.f2]), (26, .int .i64 i7230), (27, .bool false), (28, .pointer (some ⟨g7847, 1, none⟩)), (29, .string x7844.f1), (30, .pointer (some ⟨g7847, 1, none⟩)), (31, .string x7844.f1), (32, .int .i64 (x7844.f1.size : Int)), (33, .int .i64 (mn (x7844.f1.size : Int) 18)), (34, .string (x7844.f1.extract 0 ((mn (x7844.f1.size : Int) 18).toNat))), (35, .pointer (some ⟨g7847, 2, none⟩)), (36, .int .i64 x7844.f2), (37, .pointer (some ⟨g7847, 0, none⟩)), (38, .int .i64 x7844.f0), (39, .int .i64 (x7844.f0.tmod 5)), (40, .int .i64 (wrap64 ((x7844.f0.tmod 5) + 5))), (41, .int .i64 ((wrap64 ((x7844.f0.tmod 5) + 5)).tmod 5)), (43, v7227), (44, .string (x7844.f1.extract 0 ((mn (x7844.f1.size : Int) 18).toNat))), (45, .int .i64 x7844.f2), (46, .int .i64 ((wrap64 ((x7844.f0.tmod 5) + 5)).tmod 5)), (49, .int .i64 t7855), (50, .int .i64 ((wrap64 ((x7844.f0.tmod 5) + 5)).tmod 5)), (51, .bool q7995)], [.mp g4 (menc mS mI mp7231), .mp g3 (menc mS mI mp7232), .mp g2 (menc mS mI mp7233), .row (.slice (some ad7845) l0.length n7846) 3 (l0.map enc25)], [(g7847, 26, [.int .i64 x7844.f0, .string x7844.f1, .int .i64 x7844.f2])], [(v7992, 33, 6, l7993.map enc32), (v7227, 33, 6, l7228.map enc32)]⟩) (fun (v7992 : Value) (l7993 : List S32) (i7994 : Int) (q7995 : Bool) => tarrylaw08_StockKeeps.j21 k (tarrylaw08_StockKeeps.l19 k l0 ml19) i7230 l7228 mp7231 mp7232 mp7233 x7844 l7993 i7994 q7995 = some r1) ?_ ?_
              · refine VC.seq ?_
                refine VC.region ?_
                refine VL.va (op_move rfl (ltn rfl)) rfl ?_
                refine VL.letter ((((wrap64 ((x7844.f0.tmod 5) + 5)).tmod 5) == 0)) fun b7979 hb7979 => ?_
                refine VL.va (op_cmp rfl rfl (congrArg some hb7979) (ltn rfl)) rfl ?_
                refine VL.done ?_
                refine VN.then ?_
                by_cases c7980 : ((wrap64 ((x7844.f0.tmod 5) + 5)).tmod 5) = 0
                · rw [if_pos c7980] at h
                  obtain rfl : b7979 = true := hb7979.symm.trans (beq_iff_eq.2 c7980)
                  refine VC.cond_t rfl ?_
                  refine VC.region ?_
                  refine VL.va (op_move rfl (ltn rfl)) rfl ?_
                  refine VL.va (op_move rfl (ltn rfl)) rfl ?_
                  refine VL.va (op_move rfl (ltn rfl)) rfl ?_
                  replace h := Option.bind_eq_some_iff.1 h
                  obtain ⟨⟨r7981, t7982⟩, hA7983, h⟩ := h
                  dsimp only at h
                  refine VL.sC (o_call_b0 FO8 (stock_Receive.ok k l7228 (x7844.f1.extract 0 ((mn (x7844.f1.size : Int) 18).toNat)) x7844.f2 v7227 r7981 t7982 hA7983) rfl rfl (ltn rfl) (All_of (.cons (.inr (.inl ⟨_, List.mem_of_getElem? (i := 1) rfl, rfl⟩)) .nil)) (by rintro _ _ _ ⟨v7985, rfl, rfl, rfl⟩; rfl)) rfl ?_
                  rintro _ _ _ ⟨v7985, rfl, rfl, rfl⟩
                  refine VL.va (op_move rfl (ltn rfl)) rfl ?_
                  refine VL.va (op_extract rfl rfl (ltn rfl)) rfl ?_
                  refine VL.va (op_extract rfl rfl (ltn rfl)) rfl ?_
                  refine VL.va (op_assign rfl (ltn rfl)) rfl ?_
                  refine VL.va (op_assign rfl (ltn rfl)) rfl ?_
                  refine VL.done ?_
                  refine VN.meet4 v7985 r7981 t7982 true [0] [0, 2] h ⟨rfl, ⟨rfl, rfl, rfl, rfl, rfl, rfl, rfl, rfl, rfl, rfl, rfl, rfl, rfl, rfl, rfl, rfl, rfl, rfl, rfl, rfl, rfl, rfl, rfl, rfl, rfl, rfl, rfl, rfl, rfl, rfl, rfl, rfl, rfl, rfl, rfl, rfl, rfl, rfl, rfl, rfl, rfl, trivial⟩, ⟨⟨0, rfl⟩, ⟨1, rfl⟩, ⟨2, rfl⟩, ⟨3, rfl⟩, trivial⟩, rfl, by decide, rfl, by decide⟩
                · rw [if_neg c7980] at h
                  obtain rfl : b7979 = false := hb7979.symm.trans (beq_eq_false_iff_ne.2 c7980)
                  refine VC.cond_f rfl ?_
                  refine VC.skip ?_
                  refine VN.meet4 v7858 r7854 t7855 false [0] [0, 1] h ⟨rfl, ⟨rfl, rfl, rfl, rfl, rfl, rfl, rfl, rfl, rfl, rfl, rfl, rfl, rfl, rfl, rfl, rfl, rfl, rfl, rfl, rfl, rfl, rfl, rfl, rfl, rfl, rfl, rfl, rfl, rfl, rfl, rfl, rfl, rfl, rfl, rfl, rfl, rfl, rfl, rfl, rfl, rfl, trivial⟩, ⟨⟨0, rfl⟩, ⟨1, rfl⟩, ⟨2, rfl⟩, ⟨3, rfl⟩, trivial⟩, rfl, by decide, rfl, by decide⟩
              clear h
              intro v7992 l7993 i7994 q7995 h
              unfold tarrylaw08_StockKeeps.j21 at h
              refine VC.seq ?_
              refine VC.seq ?_
              refine VC.region ?_
              refine VL.va (op_move rfl (ltn rfl)) rfl ?_
              refine VL.letter ((i7994 != 0)) fun b8002 hb8002 => ?_
              refine VL.va (op_cmp rfl rfl (congrArg some hb8002) (ltn rfl)) rfl ?_
              refine VL.done ?_
              refine VN.then ?_
              by_cases c8003 : i7994 = 0
              · rw [if_pos c8003] at h
                obtain rfl : b8002 = false := hb8002.symm.trans (bne_eq_false_iff_eq.2 c8003)
                refine VC.cond_f rfl ?_
                refine VC.skip ?_
                refine VN.then ?_
                refine VC.seq ?_
                refine VC.seq ?_
                refine VC.region ?_
                refine VL.va (op_move rfl (ltn rfl)) rfl ?_
                refine VL.done ?_
                refine VN.then ?_
                refine VC.block ?_
                refine VC.seq ?_
                refine VC.region ?_
                refine VL.letter ((((wrap64 ((x7844.f0.tmod 5) + 5)).tmod 5) == 0)) fun b8010 hb8010 => ?_
                refine VL.va (op_cmp rfl rfl (congrArg some hb8010) (ltn rfl)) rfl ?_
                refine VL.va (op_assign rfl (ltn rfl)) rfl ?_
                refine VL.done ?_
                refine VN.then ?_
                by_cases c8011 : ((wrap64 ((x7844.f0.tmod 5) + 5)).tmod 5) = 0
                · rw [if_pos c8011] at h
                  obtain rfl : b8010 = true := hb8010.symm.trans (beq_iff_eq.2 c8011)
                  refine VC.cond_t rfl ?_
                  refine VC.region ?_
                  refine VL.va (op_move rfl (ltn rfl)) rfl ?_
                  refine VL.va (op_move rfl (ltn rfl)) rfl ?_
                  refine VL.va (op_lookup (ke := mS) (ve := mI) (m := mp7233) (dv := 0) (k := (x7844.f1.extract 0 ((mn (x7844.f1.size : Int) 18).toNat))) 2 Try.underlying24 MK9 Z3 rfl rfl rfl (ltn rfl)) rfl ?_
                  refine VL.va (op_move rfl (ltn rfl)) rfl ?_
                  refine VL.va (op_ari64 rfl rfl rfl (ltn rfl)) rfl ?_
                  refine VL.step1 (o_mapUpdate (ke := mS) (ve := mI) (m := mp7233) (k := (x7844.f1.extract 0 ((mn (x7844.f1.size : Int) 18).toNat))) (v' := (wrap64 ((mget mp7233 (x7844.f1.extract 0 ((mn (x7844.f1.size : Int) 18).toNat)) 0) + x7844.f2))) 2 Try.underlying24 MK9 hbg2 rfl ⟨⟨(Ne.symm hne_g2_g4), (Ne.symm hne_g2_g4)⟩, ⟨(Ne.symm hne_g2_g3), (Ne.symm hne_g2_g3)⟩, trivial, trivial⟩ rfl rfl rfl) rfl ?_
                  refine VL.done ?_
                  refine VN.block ?_
                  refine VN.then ?_
                  refine VC.seq ?_
                  refine VC.region ?_
                  refine VL.va (op_move rfl (ltn rfl)) rfl ?_
                  refine VL.va (op_assign rfl (ltn rfl)) rfl ?_
                  refine VL.done ?_
                  refine VN.then ?_
                  refine VC.seq ?_
                  refine VC.region ?_
                  refine VL.va (op_move rfl (ltn rfl)) rfl ?_
                  replace h := Option.bind_eq_some_iff.1 h
                  obtain ⟨t8015, hA8016, h⟩ := h
                  refine VL.sC (o_call_b0 FO9 (stock_Right.ok k l7993 v7992 t8015 hA8016) rfl rfl (ltn rfl) (All_of (.cons (.inr (.inl ⟨_, List.mem_of_getElem? (i := 0) rfl, rfl⟩)) .nil)) (by rintro _ _ _ ⟨rfl, rfl, rfl⟩; rfl)) rfl ?_
                  rintro _ _ _ ⟨rfl, rfl, rfl⟩
                  by_cases c8017 : t8015 = true
                  · rw [if_pos c8017] at h
                    obtain rfl := c8017
                    refine VL.va (op_not rfl rfl (ltn rfl)) rfl ?_
                    refine VL.done ?_
                    refine VN.then ?_
                    refine VC.cond_f rfl ?_
                    refine VC.skip ?_
                    refine VN.block ?_
                    refine VN.then ?_
                    refine VC.region ?_
                    refine VL.va (op_ari64 rfl rfl rfl (ltn rfl)) rfl ?_
                    refine VL.va (op_move rfl (ltn rfl)) rfl ?_
                    refine VL.done ?_
                    refine VN.again [] [0] (ihl19 v7992 l7993 (wrap64 (i7230 + 1)) mp7231 mp7232 (mset mp7233 (x7844.f1.extract 0 ((mn (x7844.f1.size : Int) 18).toNat)) (wrap64 ((mget mp7233 (x7844.f1.extract 0 ((mn (x7844.f1.size : Int) 18).toNat)) 0) + x7844.f2))) h) ⟨rfl, ⟨rfl, rfl, rfl, rfl, rfl, rfl, rfl, rfl, trivial⟩, ⟨⟨0, rfl⟩, ⟨1, rfl⟩, ⟨2, rfl⟩, ⟨3, rfl⟩, trivial⟩, rfl, by decide, rfl, by decide⟩
                  · rw [if_neg c8017] at h
                    obtain rfl := Bool.eq_false_iff.2 c8017
                    refine VL.va (op_not rfl rfl (ltn rfl)) rfl ?_
                    refine VL.done ?_
                    refine VN.then ?_
                    refine VC.cond_t rfl ?_
                    refine VC.seq ?_
                    refine VC.region ?_
                    refine VL.va (op_assign rfl (ltn rfl)) rfl ?_
                    refine VL.done ?_
                    refine VN.then ?_
                    refine VC.ret ?_
                    refine VR.block ?_
                    refine VR.then ?_
                    refine VR.then ?_
                    refine VR.block ?_
                    refine VR.then ?_
                    cases h
                · rw [if_neg c8011] at h
                  obtain rfl : b8010 = false := hb8010.symm.trans (beq_eq_false_iff_ne.2 c8011)
                  refine VC.cond_f rfl ?_
                  refine VC.seq ?_
                  refine VC.region ?_
                  refine VL.letter ((((wrap64 ((x7844.f0.tmod 5) + 5)).tmod 5) == 3)) fun b8018 hb8018 => ?_
                  refine VL.va (op_cmp rfl rfl (congrArg some hb8018) (ltn rfl)) rfl ?_
                  refine VL.va (op_assign rfl (ltn rfl)) rfl ?_
                  refine VL.done ?_
                  refine VN.then ?_
                  by_cases c8019 : ((wrap64 ((x7844.f0.tmod 5) + 5)).tmod 5) = 3
                  · rw [if_pos c8019] at h
                    obtain rfl : b8018 = true := hb8018.symm.trans (beq_iff_eq.2 c8019)
                    refine VC.cond_t rfl ?_
                    refine VC.region ?_
                    refine VL.va (op_move rfl (ltn rfl)) rfl ?_
                    refine VL.va (op_move rfl (ltn rfl)) rfl ?_
                    refine VL.va (op_lookup (ke := mS) (ve := mI) (m := mp7231) (dv := 0) (k := (x7844.f1.extract 0 ((mn (x7844.f1.size : Int) 18).toNat))) 0 Try.underlying24 MK9 Z3 rfl rfl rfl (ltn rfl)) rfl ?_
                    refine VL.va (op_move rfl (ltn rfl)) rfl ?_
                    refine VL.va (op_ari64 rfl rfl rfl (ltn rfl)) rfl ?_
                    refine VL.step1 (o_mapUpdate (ke := mS) (ve := mI) (m := mp7231) (k := (x7844.f1.extract 0 ((mn (x7844.f1.size : Int) 18).toNat))) (v' := (wrap64 ((mget mp7231 (x7844.f1.extract 0 ((mn (x7844.f1.size : Int) 18).toNat)) 0) + x7844.f2))) 0 Try.underlying24 MK9 hbg4 rfl ⟨⟨hne_g3_g4, hne_g3_g4⟩, ⟨hne_g2_g4, hne_g2_g4⟩, trivial, trivial⟩ rfl rfl rfl) rfl ?_
                    refine VL.done ?_
                    refine VN.block ?_
                    refine VN.then ?_
                    refine VC.seq ?_
                    refine VC.region ?_
                    refine VL.va (op_move rfl (ltn rfl)) rfl ?_
                    refine VL.va (op_assign rfl (ltn rfl)) rfl ?_
                    refine VL.done ?_
                    refine VN.then ?_
                    refine VC.seq ?_
                    refine VC.region ?_
                    refine VL.va (op_move rfl (ltn rfl)) rfl ?_
                    replace h := Option.bind_eq_some_iff.1 h
                    obtain ⟨t8023, hA8024, h⟩ := h
                    refine VL.sC (o_call_b0 FO9 (stock_Right.ok k l7993 v7992 t8023 hA8024) rfl rfl (ltn rfl) (All_of (.cons (.inr (.inl ⟨_, List.mem_of_getElem? (i := 0) rfl, rfl⟩)) .nil)) (by rintro _ _ _ ⟨rfl, rfl, rfl⟩; rfl)) rfl ?_
                    rintro _ _ _ ⟨rfl, rfl, rfl⟩
                    by_cases c8025 : t8023 = true
                    · rw [if_pos c8025] at h
                      obtain rfl := c8025
                      refine VL.va (op_not rfl rfl (ltn rfl)) rfl ?_
                      refine VL.done ?_
                      refine VN.then ?_
                      refine VC.cond_f rfl ?_
                      refine VC.skip ?_
                      refine VN.block ?_
                      refine VN.then ?_
                      refine VC.region ?_
                      refine VL.va (op_ari64 rfl rfl rfl (ltn rfl)) rfl ?_
                      refine VL.va (op_move rfl (ltn rfl)) rfl ?_
                      refine VL.done ?_
                      refine VN.again [] [0] (ihl19 v7992 l7993 (wrap64 (i7230 + 1)) (mset mp7231 (x7844.f1.extract 0 ((mn (x7844.f1.size : Int) 18).toNat)) (wrap64 ((mget mp7231 (x7844.f1.extract 0 ((mn (x7844.f1.size : Int) 18).toNat)) 0) + x7844.f2))) mp7232 mp7233 h) ⟨rfl, ⟨rfl, rfl, rfl, rfl, rfl, rfl, rfl, rfl, trivial⟩, ⟨⟨0, rfl⟩, ⟨1, rfl⟩, ⟨2, rfl⟩, ⟨3, rfl⟩, trivial⟩, rfl, by decide, rfl, by decide⟩
                    · rw [if_neg c8025] at h
                      obtain rfl := Bool.eq_false_iff.2 c8025
                      refine VL.va (op_not rfl rfl (ltn rfl)) rfl ?_
                      refine VL.done ?_
                      refine VN.then ?_
                      refine VC.cond_t rfl ?_
                      refine VC.seq ?_
                      refine VC.region ?_
                      refine VL.va (op_assign rfl (ltn rfl)) rfl ?_
                      refine VL.done ?_
                      refine VN.then ?_
                      refine VC.ret ?_
                      refine VR.block ?_
                      refine VR.then ?_
                      refine VR.then ?_
                      refine VR.block ?_
                      refine VR.then ?_
                      cases h
                  · rw [if_neg c8019] at h
                    obtain rfl : b8018 = false := hb8018.symm.trans (beq_eq_false_iff_ne.2 c8019)
                    refine VC.cond_f rfl ?_
                    refine VC.seq ?_
                    refine VC.region ?_
                    refine VL.letter ((((wrap64 ((x7844.f0.tmod 5) + 5)).tmod 5) == 4)) fun b8026 hb8026 => ?_
                    refine VL.va (op_cmp rfl rfl (congrArg some hb8026) (ltn rfl)) rfl ?_
                    refine VL.va (op_assign rfl (ltn rfl)) rfl ?_
                    refine VL.done ?_
                    refine VN.then ?_
                    by_cases c8027 : ((wrap64 ((x7844.f0.tmod 5) + 5)).tmod 5) = 4
                    · rw [if_pos c8027] at h
                      obtain rfl : b8026 = true := hb8026.symm.trans (beq_iff_eq.2 c8027)
                      refine VC.cond_t rfl ?_
                      refine VC.region ?_
                      refine VL.va (op_move rfl (ltn rfl)) rfl ?_
                      refine VL.va (op_move rfl (ltn rfl)) rfl ?_
                      refine VL.va (op_lookup (ke := mS) (ve := mI) (m := mp7232) (dv := 0) (k := (x7844.f1.extract 0 ((mn (x7844.f1.size : Int) 18).toNat))) 1 Try.underlying24 MK9 Z3 rfl rfl rfl (ltn rfl)) rfl ?_
                      refine VL.va (op_move rfl (ltn rfl)) rfl ?_
                      refine VL.va (op_ari64 rfl rfl rfl (ltn rfl)) rfl ?_
                      refine VL.step1 (o_mapUpdate (ke := mS) (ve := mI) (m := mp7232) (k := (x7844.f1.extract 0 ((mn (x7844.f1.size : Int) 18).toNat))) (v' := (wrap64 ((mget mp7232 (x7844.f1.extract 0 ((mn (x7844.f1.size : Int) 18).toNat)) 0) + x7844.f2))) 1 Try.underlying24 MK9 hbg3 rfl ⟨⟨(Ne.symm hne_g3_g4), (Ne.symm hne_g3_g4)⟩, ⟨hne_g2_g3, hne_g2_g3⟩, trivial, trivial⟩ rfl rfl rfl) rfl ?_
                      refine VL.done ?_
                      refine VN.block ?_
                      refine VN.then ?_
                      refine VC.seq ?_
                      refine VC.region ?_
                      refine VL.va (op_move rfl (ltn rfl)) rfl ?_
                      refine VL.va (op_assign rfl (ltn rfl)) rfl ?_
                      refine VL.done ?_
                      refine VN.then ?_
                      refine VC.seq ?_
                      refine VC.region ?_
                      refine VL.va (op_move rfl (ltn rfl)) rfl ?_
                      replace h := Option.bind_eq_some_iff.1 h
                      obtain ⟨t8031, hA8032, h⟩ := h
                      refine VL.sC (o_call_b0 FO9 (stock_Right.ok k l7993 v7992 t8031 hA8032) rfl rfl (ltn rfl) (All_of (.cons (.inr (.inl ⟨_, List.mem_of_getElem? (i := 0) rfl, rfl⟩)) .nil)) (by rintro _ _ _ ⟨rfl, rfl, rfl⟩; rfl)) rfl ?_
                      rintro _ _ _ ⟨rfl, rfl, rfl⟩
                      by_cases c8033 : t8031 = true
                      · rw [if_pos c8033] at h
                        obtain rfl := c8033
                        refine VL.va (op_not rfl rfl (ltn rfl)) rfl ?_
                        refine VL.done ?_
                        refine VN.then ?_
                        refine VC.cond_f rfl ?_
                        refine VC.skip ?_
                        refine VN.block ?_
                        refine VN.then ?_
                        refine VC.region ?_
                        refine VL.va (op_ari64 rfl rfl rfl (ltn rfl)) rfl ?_
                        refine VL.va (op_move rfl (ltn rfl)) rfl ?_
                        refine VL.done ?_
                        refine VN.again [] [0] (ihl19 v7992 l7993 (wrap64 (i7230 + 1)) mp7231 (mset mp7232 (x7844.f1.extract 0 ((mn (x7844.f1.size : Int) 18).toNat)) (wrap64 ((mget mp7232 (x7844.f1.extract 0 ((mn (x7844.f1.size : Int) 18).toNat)) 0) + x7844.f2))) mp7233 h) ⟨rfl, ⟨rfl, rfl, rfl, rfl, rfl, rfl, rfl, rfl, trivial⟩, ⟨⟨0, rfl⟩, ⟨1, rfl⟩, ⟨2, rfl⟩, ⟨3, rfl⟩, trivial⟩, rfl, by decide, rfl, by decide⟩
                      · rw [if_neg c8033] at h
                        obtain rfl := Bool.eq_false_iff.2 c8033
                        refine VL.va (op_not rfl rfl (ltn rfl)) rfl ?_
                        refine VL.done ?_
                        refine VN.then ?_
                        refine VC.cond_t rfl ?_
                        refine VC.seq ?_
                        refine VC.region ?_
                        refine VL.va (op_assign rfl (ltn rfl)) rfl ?_
                        refine VL.done ?_
                        refine VN.then ?_
                        refine VC.ret ?_
                        refine VR.block ?_
                        refine VR.then ?_
                        refine VR.then ?_
                        refine VR.block ?_
                        refine VR.then ?_
                        cases h
                    · rw [if_neg c8027] at h
                      obtain rfl : b8026 = false := hb8026.symm.trans (beq_eq_false_iff_ne.2 c8027)
                      refine VC.cond_f rfl ?_
                      refine VC.skip ?_
                      refine VN.block ?_
                      refine VN.then ?_
                      refine VC.seq ?_
                      refine VC.region ?_
                      refine VL.va (op_move rfl (ltn rfl)) rfl ?_
                      refine VL.va (op_assign rfl (ltn rfl)) rfl ?_
                      refine VL.done ?_
                      refine VN.then ?_
                      refine VC.seq ?_
                      refine VC.region ?_
                      refine VL.va (op_move rfl (ltn rfl)) rfl ?_
                      replace h := Option.bind_eq_some_iff.1 h
                      obtain ⟨t8037, hA8038, h⟩ := h
                      refine VL.sC (o_call_b0 FO9 (stock_Right.ok k l7993 v7992 t8037 hA8038) rfl rfl (ltn rfl) (All_of (.cons (.inr (.inl ⟨_, List.mem_of_getElem? (i := 0) rfl, rfl⟩)) .nil)) (by rintro _ _ _ ⟨rfl, rfl, rfl⟩; rfl)) rfl ?_
                      rintro _ _ _ ⟨rfl, rfl, rfl⟩
                      by_cases c8039 : t8037 = true
                      · rw [if_pos c8039] at h
                        obtain rfl := c8039
                        refine VL.va (op_not rfl rfl (ltn rfl)) rfl ?_
                        refine VL.done ?_
                        refine VN.then ?_
                        refine VC.cond_f rfl ?_
                        refine VC.skip ?_
                        refine VN.block ?_
                        refine VN.then ?_
                        refine VC.region ?_
                        refine VL.va (op_ari64 rfl rfl rfl (ltn rfl)) rfl ?_
                        refine VL.va (op_move rfl (ltn rfl)) rfl ?_
                        refine VL.done ?_
                        refine VN.again [] [0] (ihl19 v7992 l7993 (wrap64 (i7230 + 1)) mp7231 mp7232 mp7233 h) ⟨rfl, ⟨rfl, rfl, rfl, rfl, rfl, rfl, rfl, rfl, trivial⟩, ⟨⟨0, rfl⟩, ⟨1, rfl⟩, ⟨2, rfl⟩, ⟨3, rfl⟩, trivial⟩, rfl, by decide, rfl, by decide⟩
                      · rw [if_neg c8039] at h
                        obtain rfl := Bool.eq_false_iff.2 c8039
                        refine VL.va (op_not rfl rfl (ltn rfl)) rfl ?_
                        refine VL.done ?_
                        refine VN.then ?_
                        refine VC.cond_t rfl ?_
                        refine VC.seq ?_
                        refine VC.region ?_
                        refine VL.va (op_assign rfl (ltn rfl)) rfl ?_
                        refine VL.done ?_
                        refine VN.then ?_
                        refine VC.ret ?_
                        refine VR.block ?_
                        refine VR.then ?_
                        refine VR.then ?_
                        refine VR.block ?_
                        refine VR.then ?_
                        cases h
              · rw [if_neg c8003] at h
                obtain rfl : b8002 = true := hb8002.symm.trans (bne_iff_ne.2 c8003)
                refine VC.cond_t rfl ?_
                refine VC.seq ?_
                refine VC.seq ?_
                refine VC.region ?_
                refine VL.va (op_move rfl (ltn rfl)) rfl ?_
                refine VL.va (op_len_own (m := l7993.length) 0 lenm Try.underlying23 rfl rfl (ltn rfl)) rfl ?_
                refine VL.letter (((l7993.length : Int) != 0)) fun b8042 hb8042 => ?_
                refine VL.va (op_cmp rfl rfl (congrArg some hb8042) (ltn rfl)) rfl ?_
                refine VL.done ?_
                refine VN.then ?_
                by_cases c8043 : (l7993.length : Int) = 0
                · rw [if_pos c8043] at h
                  obtain rfl : b8042 = false := hb8042.symm.trans (bne_eq_false_iff_eq.2 c8043)
                  refine VC.cond_f rfl ?_
                  refine VC.skip ?_
                  refine VN.then ?_
                  refine VC.exit ?_
                  refine VX.then ?_
                  refine VX.hit ?_
                  refine VN.then ?_
                  refine VC.region ?_
                  refine VL.va (op_ari64 rfl rfl rfl (ltn rfl)) rfl ?_
                  refine VL.va (op_move rfl (ltn rfl)) rfl ?_
                  refine VL.done ?_
                  refine VN.again [] [1] (ihl19 v7227 l7228 (wrap64 (i7230 + 1)) mp7231 mp7232 mp7233 h) ⟨rfl, ⟨rfl, rfl, rfl, rfl, rfl, rfl, rfl, rfl, trivial⟩, ⟨⟨0, rfl⟩, ⟨1, rfl⟩, ⟨2, rfl⟩, ⟨3, rfl⟩, trivial⟩, rfl, by decide, rfl, by decide⟩
                · rw [if_neg c8043] at h
                  obtain rfl : b8042 = true := hb8042.symm.trans (bne_iff_ne.2 c8043)
                  refine VC.cond_t rfl ?_
                  refine VC.seq ?_
                  refine VC.region ?_
                  refine VL.va (op_assign rfl (ltn rfl)) rfl ?_
                  refine VL.done ?_
                  refine VN.then ?_
                  refine VC.ret ?_
                  refine VR.then ?_
                  refine VR.then ?_
                  refine VR.block ?_
                  refine VR.then ?_
                  refine VR.then ?_
                  refine VR.block ?_
                  refine VR.then ?_
                  cases h
            · rw [if_neg c7853] at h; cases h
          · rw [if_neg c7852] at h; cases h
      · rw [if_neg c7843] at h; cases h
    · rw [if_neg c7641] at h
      obtain rfl : b7639 = false := hb7639.symm.trans (decide_eq_false c7641)
      refine VC.cond_f rfl ?_
      refine VC.exit ?_
      refine VX.then ?_
      refine VX.then ?_
      refine VX.hit ?_
      refine VN.meet5 v7227 l7228 mp7231 mp7232 mp7233 [] [0] h ⟨rfl, ⟨rfl, rfl, rfl, rfl, rfl, trivial⟩, ⟨⟨0, rfl⟩, ⟨1, rfl⟩, ⟨2, rfl⟩, trivial⟩, rfl, by decide, rfl, by decide⟩
  clear h
  intro v8045 l8046 mp8047 mp8048 mp8049 h
  unfold tarrylaw08_StockKeeps.j18 at h
  refine VC.seq ?_
  refine VC.seq ?_
  refine VC.region ?_
  refine VL.va (op_move rfl (ltn rfl)) rfl ?_
  refine VL.va (op_len_own (m := l8046.length) 0 lenm Try.underlying23 rfl rfl (ltn rfl)) rfl ?_
  refine VL.va (op_move rfl (ltn rfl)) rfl ?_
  refine VL.done ?_
  refine VN.then ?_
  refine VC.block ?_
  refine VC.loop1 (fun (i8283 : Int) => ⟨157, [(2, .bool false), (3, v8045), (4, .map (some g2)), (5, .map (some g3)), (6, .map (some g4)), (91, v8045), (92, .int .i64 (l8046.length : Int)), (93, .int .i64 i8283)], [.mp g4 (menc mS mI mp8047), .mp g3 (menc mS mI mp8048), .mp g2 (menc mS mI mp8049)], [], [(v8045, 33, 6, l8046.map enc32)]⟩) (fun (ml23 : Nat) (i8283 : Int) => tarrylaw08_StockKeeps.l23 k l8046 mp8047 mp8048 mp8049 ml23 i8283 = some r1) k 0 [] [0] h ⟨rfl, ⟨rfl, rfl, rfl, rfl, rfl, rfl, rfl, rfl, trivial⟩, ⟨⟨0, rfl⟩, ⟨1, rfl⟩, ⟨2, rfl⟩, trivial⟩, rfl, by decide, rfl, by decide⟩ (by intros; simp [tarrylaw08_StockKeeps.l23]) ?_
  clear h
  intro ml23 ihl23 i8283 h
  simp only [tarrylaw08_StockKeeps.l23] at h
  refine VC.seq ?_
  refine VC.region ?_
  refine VL.letter (decide (i8283 < (l8046.length : Int))) fun b8343 hb8343 => ?_
  refine VL.va (op_cmp rfl rfl (congrArg some hb8343) (ltn rfl)) rfl ?_
  refine VL.done ?_
  refine VN.then ?_
  refine VC.seq ?_
  by_cases c8353 : i8283 < (l8046.length : Int)
  · rw [if_pos c8353] at h
    obtain rfl : b8343 = true := hb8343.symm.trans (decide_eq_true c8353)
    refine VC.cond_t rfl ?_
    refine VC.skip ?_
    refine VN.then ?_
    refine VC.seq ?_
    refine VC.block ?_
    refine VC.seq ?_
    refine VC.region ?_
    by_cases c8382 : 0 ≤ i8283
    · rw [if_pos c8382] at h
      replace h := Option.bind_eq_some_iff.1 h
      obtain ⟨x8383, hx8383, h⟩ := h
      refine VL.openR (m := l8046.length) 0 lenm rfl (pos_get hx8383) ?_
      rintro g8384 n8385 rfl
      refine VL.va (op_indexAddr Try.underlying23 TI33 rfl rfl c8382 (lt_get c8382 hx8383) (add_zero_at _ _) (ltn rfl)) rfl ?_
      refine VL.va (op_load_own (sz := 6) (o := 0) 0 i8283.toNat 6 rfl rfl (get_map hx8383) TI33 rfl (fun h => absurd h (by decide)) (ltn rfl)) rfl ?_
      refine VL.sG (o_alloc Z33 ZL33 (ltn rfl)) rfl ?_
      intro g8386
      refine VL.step1 (o_store 0 6 rfl rfl rfl TI33 (.agg (.of rfl)) rfl (len rfl)) rfl ?_
      refine VL.done ?_
      refine VN.then ?_
      refine VC.seq ?_
      refine VC.region ?_
      refine VL.va (op_fieldAddr FI33_1 rfl (add_at _ _ _) (ltn rfl)) rfl ?_
      refine VL.va (op_load 0 1 rfl rfl TI3 rfl (by decide) (ltn rfl)) rfl ?_
      refine VL.va (op_move rfl (ltn rfl)) rfl ?_
      refine VL.va (op_fieldAddr FI33_0 rfl (add_at _ _ _) (ltn rfl)) rfl ?_
      refine VL.va (op_load 0 1 rfl rfl TI9 rfl (by decide) (ltn rfl)) rfl ?_
      refine VL.va (op_lookup (ke := mS) (ve := mI) (m := mp8049) (dv := 0) (k := x8383.f0) 2 Try.underlying24 MK9 Z3 rfl rfl rfl (ltn rfl)) rfl ?_
      refine VL.letter ((x8383.f1 != (mget mp8049 x8383.f0 0))) fun b8398 hb8398 => ?_
      refine VL.va (op_cmp rfl rfl (congrArg some hb8398) (ltn rfl)) rfl ?_
      refine VL.va (op_move rfl (ltn rfl)) rfl ?_
      by_cases c8399 : x8383.f1 = (mget mp8049 x8383.f0 0)
      · rw [if_pos c8399] at h
        obtain rfl : b8398 = false := hb8398.symm.trans (bne_eq_false_iff_eq.2 c8399)
        refine VL.va (op_fieldAddr FI33_4 rfl (add_at _ _ _) (ltn rfl)) rfl ?_
        refine VL.va (op_load 0 1 rfl rfl TI3 rfl (by decide) (ltn rfl)) rfl ?_
        refine VL.va (op_move rfl (ltn rfl)) rfl ?_
        refine VL.va (op_fieldAddr FI33_0 rfl (add_at _ _ _) (ltn rfl)) rfl ?_
        refine VL.va (op_load 0 1 rfl rfl TI9 rfl (by decide) (ltn rfl)) rfl ?_
        refine VL.va (op_lookup (ke := mS) (ve := mI) (m := mp8047) (dv := 0) (k := x8383.f0) 0 Try.underlying24 MK9 Z3 rfl rfl rfl (ltn rfl)) rfl ?_
        refine VL.letter ((x8383.f4 != (mget mp8047 x8383.f0 0))) fun b8400 hb8400 => ?_
        refine VL.va (op_cmp rfl rfl (congrArg some hb8400) (ltn rfl)) rfl ?_
        refine VL.va (op_pick rfl rfl (ltn rfl)) rfl ?_
        refine VL.va (op_move rfl (ltn rfl)) rfl ?_
        by_cases c8401 : x8383.f4 = (mget mp8047 x8383.f0 0)
        · rw [if_pos c8401] at h
          obtain rfl : b8400 = false := hb8400.symm.trans (bne_eq_false_iff_eq.2 c8401)
          refine VL.va (op_fieldAddr FI33_5 rfl (add_at _ _ _) (ltn rfl)) rfl ?_
          refine VL.va (op_load 0 1 rfl rfl TI3 rfl (by decide) (ltn rfl)) rfl ?_
          refine VL.va (op_move rfl (ltn rfl)) rfl ?_
          refine VL.va (op_fieldAddr FI33_0 rfl (add_at _ _ _) (ltn rfl)) rfl ?_
          refine VL.va (op_load 0 1 rfl rfl TI9 rfl (by decide) (ltn rfl)) rfl ?_
          refine VL.va (op_lookup (ke := mS) (ve := mI) (m := mp8048) (dv := 0) (k := x8383.f0) 1 Try.underlying24 MK9 Z3 rfl rfl rfl (ltn rfl)) rfl ?_
          refine VL.letter ((x8383.f5 != (mget mp8048 x8383.f0 0))) fun b8402 hb8402 => ?_
          refine VL.va (op_cmp rfl rfl (congrArg some hb8402) (ltn rfl)) rfl ?_
          refine VL.va (op_pick rfl rfl (ltn rfl)) rfl ?_
          refine VL.va (op_move rfl (ltn rfl)) rfl ?_
          by_cases c8403 : x8383.f5 = (mget mp8048 x8383.f0 0)
          · rw [if_pos c8403] at h
            obtain rfl : b8402 = false := hb8402.symm.trans (bne_eq_false_iff_eq.2 c8403)
            refine VL.va (op_fieldAddr FI33_2 rfl (add_at _ _ _) (ltn rfl)) rfl ?_
            refine VL.va (op_load 0 1 rfl rfl TI3 rfl (by decide) (ltn rfl)) rfl ?_
            refine VL.va (op_fieldAddr FI33_3 rfl (add_at _ _ _) (ltn rfl)) rfl ?_
            refine VL.va (op_load 0 1 rfl rfl TI3 rfl (by decide) (ltn rfl)) rfl ?_
            refine VL.va (op_ari64 rfl rfl rfl (ltn rfl)) rfl ?_
            refine VL.va (op_fieldAddr FI33_1 rfl (add_at _ _ _) (ltn rfl)) rfl ?_
            refine VL.va (op_load 0 1 rfl rfl TI3 rfl (by decide) (ltn rfl)) rfl ?_
            refine VL.va (op_fieldAddr FI33_4 rfl (add_at _ _ _) (ltn rfl)) rfl ?_
            refine VL.va (op_load 0 1 rfl rfl TI3 rfl (by decide) (ltn rfl)) rfl ?_
            refine VL.va (op_ari64 rfl rfl rfl (ltn rfl)) rfl ?_
            refine VL.va (op_fieldAddr FI33_5 rfl (add_at _ _ _) (ltn rfl)) rfl ?_
            refine VL.va (op_load 0 1 rfl rfl TI3 rfl (by decide) (ltn rfl)) rfl ?_
            refine VL.va (op_ari64 rfl rfl rfl (ltn rfl)) rfl ?_
            refine VL.letter (((wrap64 (x8383.f2 + x8383.f3)) != (wrap64 ((wrap64 (x8383.f1 - x8383.f4)) - x8383.f5)))) fun b8404 hb8404 => ?_
            refine VL.va (op_cmp rfl rfl (congrArg some hb8404) (ltn rfl)) rfl ?_
            refine VL.va (op_pick rfl rfl (ltn rfl)) rfl ?_
            refine VL.va (op_move rfl (ltn rfl)) rfl ?_
            by_cases c8405 : (wrap64 (x8383.f2 + x8383.f3)) = (wrap64 ((wrap64 (x8383.f1 - x8383.f4)) - x8383.f5))
            · rw [if_pos c8405] at h
              obtain rfl : b8404 = false := hb8404.symm.trans (bne_eq_false_iff_eq.2 c8405)
              refine VL.va (op_fieldAddr FI33_2 rfl (add_at _ _ _) (ltn rfl)) rfl ?_
              refine VL.va (op_load 0 1 rfl rfl TI3 rfl (by decide) (ltn rfl)) rfl ?_
              refine VL.letter (decide (x8383.f2 < 0)) fun b8406 hb8406 => ?_
              refine VL.va (op_cmp rfl rfl (congrArg some hb8406) (ltn rfl)) rfl ?_
              refine VL.va (op_pick rfl rfl (ltn rfl)) rfl ?_
              refine VL.va (op_move rfl (ltn rfl)) rfl ?_
              by_cases c8407 : x8383.f2 < 0
              · rw [if_pos c8407] at h
                obtain rfl : b8406 = true := hb8406.symm.trans (decide_eq_true c8407)
                refine VL.un rfl rfl (ltn rfl) ?_
                refine VL.un rfl rfl (ltn rfl) ?_
                refine VL.un rfl rfl (ltn rfl) ?_
                refine VL.va (op_pick rfl rfl (ltn rfl)) rfl ?_
                refine VL.done ?_
                refine VN.then ?_
                refine VC.cond_t rfl ?_
                refine VC.seq ?_
                refine VC.region ?_
                refine VL.va (op_assign rfl (ltn rfl)) rfl ?_
                refine VL.done ?_
                refine VN.then ?_
                refine VC.ret ?_
                refine VR.block ?_
                refine VR.then ?_
                refine VR.then ?_
                refine VR.block ?_
                refine VR.then ?_
                cases h
              · rw [if_neg c8407] at h
                obtain rfl : b8406 = false := hb8406.symm.trans (decide_eq_false c8407)
                refine VL.va (op_fieldAddr FI33_3 rfl (add_at _ _ _) (ltn rfl)) rfl ?_
                refine VL.va (op_load 0 1 rfl rfl TI3 rfl (by decide) (ltn rfl)) rfl ?_
                refine VL.letter (decide (x8383.f3 < 0)) fun b8408 hb8408 => ?_
                refine VL.va (op_cmp rfl rfl (congrArg some hb8408) (ltn rfl)) rfl ?_
                refine VL.va (op_pick rfl rfl (ltn rfl)) rfl ?_
                refine VL.done ?_
                refine VN.then ?_
                by_cases c8409 : x8383.f3 < 0
                · rw [if_pos c8409] at h
                  obtain rfl : b8408 = true := hb8408.symm.trans (decide_eq_true c8409)
                  refine VC.cond_t rfl ?_
                  refine VC.seq ?_
                  refine VC.region ?_
                  refine VL.va (op_assign rfl (ltn rfl)) rfl ?_
                  refine VL.done ?_
                  refine VN.then ?_
                  refine VC.ret ?_
                  refine VR.block ?_
                  refine VR.then ?_
                  refine VR.then ?_
                  refine VR.block ?_
                  refine VR.then ?_
                  cases h
                · rw [if_neg c8409] at h
                  obtain rfl : b8408 = false := hb8408.symm.trans (decide_eq_false c8409)
                  refine VC.cond_f rfl ?_
                  refine VC.skip ?_
                  refine VN.block ?_
                  refine VN.then ?_
                  refine VC.region ?_
                  refine VL.va (op_ari64 rfl rfl rfl (ltn rfl)) rfl ?_
                  refine VL.va (op_move rfl (ltn rfl)) rfl ?_
                  refine VL.done ?_
                  refine VN.again [] [0] (ihl23 (wrap64 (i8283 + 1)) h) ⟨rfl, ⟨rfl, rfl, rfl, rfl, rfl, rfl, rfl, rfl, trivial⟩, ⟨⟨0, rfl⟩, ⟨1, rfl⟩, ⟨2, rfl⟩, trivial⟩, rfl, by decide, rfl, by decide⟩
            · rw [if_neg c8405] at h
              obtain rfl : b8404 = true := hb8404.symm.trans (bne_iff_ne.2 c8405)
              refine VL.un rfl rfl (ltn rfl) ?_
              refine VL.un rfl rfl (ltn rfl) ?_
              refine VL.un rfl rfl (ltn rfl) ?_
              refine VL.va (op_pick rfl rfl (ltn rfl)) rfl ?_
              refine VL.va (op_move rfl (ltn rfl)) rfl ?_
              refine VL.un rfl rfl (ltn rfl) ?_
              refine VL.un rfl rfl (ltn rfl) ?_
              refine VL.un rfl rfl (ltn rfl) ?_
              refine VL.va (op_pick rfl rfl (ltn rfl)) rfl ?_
              refine VL.done ?_
              refine VN.then ?_
              refine VC.cond_t rfl ?_
              refine VC.seq ?_
              refine VC.region ?_
              refine VL.va (op_assign rfl (ltn rfl)) rfl ?_
              refine VL.done ?_
              refine VN.then ?_
              refine VC.ret ?_
              refine VR.block ?_
              refine VR.then ?_
              refine VR.then ?_
              refine VR.block ?_
              refine VR.then ?_
              cases h
          · rw [if_neg c8403] at h
            obtain rfl : b8402 = true := hb8402.symm.trans (bne_iff_ne.2 c8403)
            refine VL.un rfl rfl (ltn rfl) ?_
            refine VL.un rfl rfl (ltn rfl) ?_
            refine VL.un rfl rfl (ltn rfl) ?_
            refine VL.un rfl rfl (ltn rfl) ?_
            refine VL.un rfl rfl (ltn rfl) ?_
            refine VL.un rfl rfl (ltn rfl) ?_
            refine VL.un rfl rfl (ltn rfl) ?_
            refine VL.un rfl rfl (ltn rfl) ?_
            refine VL.un rfl rfl (ltn rfl) ?_
            refine VL.un rfl rfl (ltn rfl) ?_
            refine VL.un rfl rfl (ltn rfl) ?_
            refine VL.un rfl rfl (ltn rfl) ?_
            refine VL.un rfl rfl (ltn rfl) ?_
            refine VL.un rfl rfl (ltn rfl) ?_
            refine VL.va (op_pick rfl rfl (ltn rfl)) rfl ?_
            refine VL.va (op_move rfl (ltn rfl)) rfl ?_
            refine VL.un rfl rfl (ltn rfl) ?_
            refine VL.un rfl rfl (ltn rfl) ?_
            refine VL.un rfl rfl (ltn rfl) ?_
            refine VL.va (op_pick rfl rfl (ltn rfl)) rfl ?_
            refine VL.va (op_move rfl (ltn rfl)) rfl ?_
            refine VL.un rfl rfl (ltn rfl) ?_
            refine VL.un rfl rfl (ltn rfl) ?_
            refine VL.un rfl rfl (ltn rfl) ?_
            refine VL.va (op_pick rfl rfl (ltn rfl)) rfl ?_
            refine VL.done ?_
            refine VN.then ?_
            refine VC.cond_t rfl ?_
            refine VC.seq ?_
            refine VC.region ?_
            refine VL.va (op_assign rfl (ltn rfl)) rfl ?_
            refine VL.done ?_
            refine VN.then ?_
            refine VC.ret ?_
            refine VR.block ?_
            refine VR.then ?_
            refine VR.then ?_
            refine VR.block ?_
            refine VR.then ?_
            cases h
        · rw [if_neg c8401] at h
          obtain rfl : b8400 = true := hb8400.symm.trans (bne_iff_ne.2 c8401)
          refine VL.un rfl rfl (ltn rfl) ?_
          refine VL.un rfl rfl (ltn rfl) ?_
          refine VL.un rfl rfl (ltn rfl) ?_
          refine VL.un rfl rfl (ltn rfl) ?_
          refine VL.un rfl rfl (ltn rfl) ?_
          refine VL.un rfl rfl (ltn rfl) ?_
          refine VL.un rfl rfl (ltn rfl) ?_
          refine VL.va (op_pick rfl rfl (ltn rfl)) rfl ?_
          refine VL.va (op_move rfl (ltn rfl)) rfl ?_
          refine VL.un rfl rfl (ltn rfl) ?_
          refine VL.un rfl rfl (ltn rfl) ?_
          refine VL.un rfl rfl (ltn rfl) ?_
          refine VL.un rfl rfl (ltn rfl) ?_
          refine VL.un rfl rfl (ltn rfl) ?_
          refine VL.un rfl rfl (ltn rfl) ?_
          refine VL.un rfl rfl (ltn rfl) ?_
          refine VL.un rfl rfl (ltn rfl) ?_
          refine VL.un rfl rfl (ltn rfl) ?_
          refine VL.un rfl rfl (ltn rfl) ?_
          refine VL.un rfl rfl (ltn rfl) ?_
          refine VL.un rfl rfl (ltn rfl) ?_
          refine VL.un rfl rfl (ltn rfl) ?_
          refine VL.un rfl rfl (ltn rfl) ?_
          refine VL.va (op_pick rfl rfl (ltn rfl)) rfl ?_
          refine VL.va (op_move rfl (ltn rfl)) rfl ?_
          refine VL.un rfl rfl (ltn rfl) ?_
          refine VL.un rfl rfl (ltn rfl) ?_
          refine VL.un rfl rfl (ltn rfl) ?_
          refine VL.va (op_pick rfl rfl (ltn rfl)) rfl ?_
          refine VL.va (op_move rfl (ltn rfl)) rfl ?_
          refine VL.un rfl rfl (ltn rfl) ?_
          refine VL.un rfl rfl (ltn rfl) ?_
          refine VL.un rfl rfl (ltn rfl) ?_
          refine VL.va (op_pick rfl rfl (ltn rfl)) rfl ?_
          refine VL.done ?_
          refine VN.then ?_
          refine VC.cond_t rfl ?_
          refine VC.seq ?_
          refine VC.region ?_
          refine VL.va (op_assign rfl (ltn rfl)) rfl ?_
          refine VL.done ?_
          refine VN.then ?_
          refine VC.ret ?_
          refine VR.block ?_
          refine VR.then ?_
          refine VR.then ?_
          refine VR.block ?_
          refine VR.then ?_
          cases h
      · rw [if_neg c8399] at h
        obtain rfl : b8398 = true := hb8398.symm.trans (bne_iff_ne.2 c8399)
        refine VL.un rfl rfl (ltn rfl) ?_
        refine VL.un rfl rfl (ltn rfl) ?_
        refine VL.un rfl rfl (ltn rfl) ?_
        refine VL.un rfl rfl (ltn rfl) ?_
        refine VL.un rfl rfl (ltn rfl) ?_
        refine VL.un rfl rfl (ltn rfl) ?_
        refine VL.un rfl rfl (ltn rfl) ?_
        refine VL.va (op_pick rfl rfl (ltn rfl)) rfl ?_
        refine VL.va (op_move rfl (ltn rfl)) rfl ?_
        refine VL.un rfl rfl (ltn rfl) ?_
        refine VL.un rfl rfl (ltn rfl) ?_
        refine VL.un rfl rfl (ltn rfl) ?_
        refine VL.un rfl rfl (ltn rfl) ?_
        refine VL.un rfl rfl (ltn rfl) ?_
        refine VL.un rfl rfl (ltn rfl) ?_
        refine VL.un rfl rfl (ltn rfl) ?_
        refine VL.va (op_pick rfl rfl (ltn rfl)) rfl ?_
        refine VL.va (op_move rfl (ltn rfl)) rfl ?_
        refine VL.un rfl rfl (ltn rfl) ?_
        refine VL.un rfl rfl (ltn rfl) ?_
        refine VL.un rfl rfl (ltn rfl) ?_
        refine VL.un rfl rfl (ltn rfl) ?_
        refine VL.un rfl rfl (ltn rfl) ?_
        refine VL.un rfl rfl (ltn rfl) ?_
        refine VL.un rfl rfl (ltn rfl) ?_
        refine VL.un rfl rfl (ltn rfl) ?_
        refine VL.un rfl rfl (ltn rfl) ?_
        refine VL.un rfl rfl (ltn rfl) ?_
        refine VL.un rfl rfl (ltn rfl) ?_
        refine VL.un rfl rfl (ltn rfl) ?_
        refine VL.un rfl rfl (ltn rfl) ?_
        refine VL.un rfl rfl (ltn rfl) ?_
        refine VL.va (op_pick rfl rfl (ltn rfl)) rfl ?_
        refine VL.va (op_move rfl (ltn rfl)) rfl ?_
        refine VL.un rfl rfl (ltn rfl) ?_
        refine VL.un rfl rfl (ltn rfl) ?_
        refine VL.un rfl rfl (ltn rfl) ?_
        refine VL.va (op_pick rfl rfl (ltn rfl)) rfl ?_
        refine VL.va (op_move rfl (ltn rfl)) rfl ?_
        refine VL.un rfl rfl (ltn rfl) ?_
        refine VL.un rfl rfl (ltn rfl) ?_
        refine VL.un rfl rfl (ltn rfl) ?_
        refine VL.va (op_pick rfl rfl (ltn rfl)) rfl ?_
        refine VL.done ?_
        refine VN.then ?_
        refine VC.cond_t rfl ?_
        refine VC.seq ?_
        refine VC.region ?_
        refine VL.va (op_assign rfl (ltn rfl)) rfl ?_
        refine VL.done ?_
        refine VN.then ?_
        refine VC.ret ?_
        refine VR.block ?_
        refine VR.then ?_
        refine VR.then ?_
        refine VR.block ?_
        refine VR.then ?_
        cases h
    · rw [if_neg c8382] at h; cases h
  · rw [if_neg c8353] at h
    obtain rfl : b8343 = false := hb8343.symm.trans (decide_eq_false c8353)
    refine VC.cond_f rfl ?_
    refine VC.exit ?_
    refine VX.then ?_
    refine VX.then ?_
    refine VX.hit ?_
    refine VN.then ?_
    refine VC.seq ?_
    refine VC.region ?_
    replace h := Option.bind_eq_some_iff.1 h
    obtain ⟨t8414, hA8415, h⟩ := h
    refine VL.sC (o_call0 FO10 (tarrylaw08_alive.ok k t8414 hA8415) rfl rfl (ltn rfl) (All_of .nil)) rfl ?_
    rintro _ _ _ ⟨rfl, rfl, rfl⟩
    refine VL.va (op_move rfl (ltn rfl)) rfl ?_
    by_cases c8416 : t8414 = true
    · rw [if_pos c8416] at h
      obtain rfl := c8416
      refine VL.va (op_move rfl (ltn rfl)) rfl ?_
      refine VL.va (op_len_own (m := l8046.length) 0 lenm Try.underlying23 rfl rfl (ltn rfl)) rfl ?_
      refine VL.va (op_move rfl (ltn rfl)) rfl ?_
      refine VL.va (op_lenM (ke := mS) (ve := mI) (m := mp8049) 2 Try.underlying24 rfl rfl (ltn rfl)) rfl ?_
      refine VL.letter (((l8046.length : Int) == (mp8049.length : Int))) fun b8417 hb8417 => ?_
      refine VL.va (op_cmp rfl rfl (congrArg some hb8417) (ltn rfl)) rfl ?_
      refine VL.va (op_pick rfl rfl (ltn rfl)) rfl ?_
      refine VL.va (op_assign rfl (ltn rfl)) rfl ?_
      refine VL.done ?_
      refine VN.then ?_
      refine VC.ret ?_
      obtain rfl := Option.some.inj h
      subst hb8417
      exact VR.fn (rs := [.tmp 2]) [] [] [] rfl (.tmp rfl .nil) ⟨rfl, rfl, rfl⟩ trivial rfl (by decide)
    · rw [if_neg c8416] at h
      obtain rfl := Bool.eq_false_iff.2 c8416
      refine VL.un rfl rfl (ltn rfl) ?_
      refine VL.un rfl rfl (ltn rfl) ?_
      refine VL.un rfl rfl (ltn rfl) ?_
      refine VL.un rfl rfl (ltn rfl) ?_
      refine VL.un rfl rfl (ltn rfl) ?_
      refine VL.va (op_pick rfl rfl (ltn rfl)) rfl ?_
      refine VL.va (op_assign rfl (ltn rfl)) rfl ?_
      refine VL.done ?_
      refine VN.then ?_
      refine VC.ret ?_
      cases h

end Go.Proofs.Ytibpoajlnloloaa.PStockKeeps
