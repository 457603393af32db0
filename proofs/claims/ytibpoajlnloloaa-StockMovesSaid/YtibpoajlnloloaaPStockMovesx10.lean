/- Written by a program of this repo: what the program's functions do, each as a Lean function, shown of the loaded code; or a statement's row over that; no condition of its own. -/
import Derived.Test.YtibpoajlnloloaaPStockMovesx9
namespace Go.Proofs.Ytibpoajlnloloaa.PStockMoves
open Go Go.RowKit Go.Proofs.YtibpoajlnloloaaV
set_option linter.unusedVariables false
set_option linter.unusedSimpArgs false

set_option maxHeartbeats 4000000 in
set_option maxRecDepth 100000 in
theorem tarrylaw08_StockMoves.ok (k : Nat) (l0 : List S32) (a1 : ByteArray) (a2 : Int) (v0 : Value) (r1 : Bool) (h : tarrylaw08_StockMoves.f k l0 a1 a2 = some r1) :
    VCalls Try.prog 6 [v0, .string a1, .int .i64 a2] [.row v0 6 (l0.map enc32)] (fun v G own => v = .bool r1 ∧ G = [] ∧ own = []) := by
  refine VCalls.intro Try.func6 rfl (len rfl) fun E hC => ?_
  unfold tarrylaw08_StockMoves.f at h
  refine VC.seq ?_
  refine VC.region ?_
  refine VL.va (op_assign rfl (ltn rfl)) rfl ?_
  refine VL.done ?_
  refine VN.then ?_
  replace h := Option.bind_eq_some_iff.1 h
  obtain ⟨r111, hA112, h⟩ := h
  by_cases c115 : 0 ≤ mn (a1.size : Int) 18
  · rw [if_pos c115] at h
    by_cases c116 : (mn (a1.size : Int) 18) ≤ (a1.size : Int)
    · rw [if_pos c116] at h
      refine VC.join1 (fun (v114 : Value) => ⟨123, [(0, v114), (1, .string (a1.extract 0 ((mn (a1.size : Int) 18).toNat))), (2, .int .i64 a2), (6, .bool false)], [], [], [(v114, 33, 6, r111.map enc32)]⟩) (fun (v114 : Value) => True) ?_ ?_
      · refine VC.draw ⟨0, [], [], [], []⟩ (by kernel_rfl) rfl (by kernel_rfl) (n := 9) (listed := LB 9 0) ?_
        refine VA.more ⟨0, [], [.row v0 6 (l0.map enc32)], [], []⟩ ⟨trivial, trivial, trivial⟩ ?_
        refine VA.va (i := 0) (listed' := LB 9 1) rfl (op_move rfl (ltn rfl)) rfl (by kernel_rfl) (by kernel_rfl) (by kernel_rfl) (by kernel_rfl) ⟨⟨⟨0, rfl⟩, trivial⟩, trivial, trivial⟩ (fun _ _ _ h => h) ?_
        refine VA.va (i := 2) (listed' := LB 9 5) rfl (op_move rfl (ltn rfl)) rfl (by kernel_rfl) (by kernel_rfl) (by kernel_rfl) (by kernel_rfl) ⟨⟨⟨0, rfl⟩, trivial⟩, trivial, trivial⟩ (fun _ _ _ h => h) ?_
        refine VA.va (i := 3) (listed' := LB 9 13) rfl (op_move rfl (ltn rfl)) rfl (by kernel_rfl) (by kernel_rfl) (by kernel_rfl) (by kernel_rfl) ⟨⟨⟨0, rfl⟩, trivial⟩, trivial, trivial⟩ (fun _ _ _ h => h) ?_
        refine VA.va (i := 4) (listed' := LB 9 29) rfl (op_lens Try.underlying9 rfl (ltn rfl)) rfl (by kernel_rfl) (by kernel_rfl) (by kernel_rfl) (by kernel_rfl) ⟨⟨⟨0, rfl⟩, trivial⟩, trivial, trivial⟩ (fun _ _ _ h => h) ?_
        refine VA.va (i := 5) (listed' := LB 9 61) rfl (op_min rfl rfl (ltn rfl)) rfl (by kernel_rfl) (by kernel_rfl) (by kernel_rfl) (by kernel_rfl) ⟨⟨⟨0, rfl⟩, trivial⟩, trivial, trivial⟩ (fun _ _ _ h => h) ?_
        refine VA.va (i := 6) (listed' := LB 9 125) rfl (op_sliceS 0 ((mn (a1.size : Int) 18).toNat) Try.underlying9 rfl ⟨rfl, ⟨_, _, rfl, c115, rfl⟩, by omega, by omega⟩ rfl (ltn rfl)) rfl (by kernel_rfl) (by kernel_rfl) (by kernel_rfl) (by kernel_rfl) ⟨⟨⟨0, rfl⟩, trivial⟩, trivial, trivial⟩ (fun _ _ _ h => h) ?_
        refine VA.oneC (i := 1) (listed' := LB 9 127) (by kernel_rfl) rfl (o_call0 FO11 (tarrylaw08_few.ok k l0 v0 r111 hA112) rfl rfl (ltn rfl) (All_of (.cons (List.mem_of_getElem? (i := 0) rfl) .nil))) rfl (by kernel_rfl) ?_
        rintro v114 _ _ ⟨_, rfl, rfl, rfl⟩
        refine ⟨⟨⟨⟨0, rfl⟩, trivial⟩, trivial, trivial⟩, ?_⟩
        refine VA.more ⟨0, [], [.row v0 6 (l0.map enc32)], [], [(v114, 33, 6, r111.map enc32)]⟩ ⟨⟨⟨0, rfl⟩, trivial⟩, trivial, trivial⟩ ?_
        refine VA.va (i := 7) (listed' := LB 9 255) rfl (op_assign rfl (ltn rfl)) rfl (by kernel_rfl) (by kernel_rfl) (by kernel_rfl) (by kernel_rfl) ⟨⟨⟨0, rfl⟩, trivial⟩, trivial, ⟨⟨0, rfl⟩, trivial⟩⟩ (fun _ _ _ h => h) ?_
        refine VA.va (i := 8) (listed' := LB 9 511) rfl (op_assign rfl (ltn rfl)) rfl (by kernel_rfl) (by kernel_rfl) (by kernel_rfl) (by kernel_rfl) ⟨⟨⟨0, rfl⟩, trivial⟩, trivial, ⟨⟨0, rfl⟩, trivial⟩⟩ (fun _ _ _ h => h) ?_
        refine VA.done (by kernel_rfl) ?_
        exact VN.meet1 v114 [] [0] trivial ⟨rfl, ⟨rfl, rfl, rfl, rfl, trivial⟩, trivial, rfl, by decide, rfl, by decide⟩
      intro v114 _
      refine VC.seq ?_
      refine VC.region ?_
      refine VL.va (op_move rfl (ltn rfl)) rfl ?_
      refine VL.va (op_move rfl (ltn rfl)) rfl ?_
      replace h := Option.bind_eq_some_iff.1 h
      obtain ⟨⟨t1847, t1848, t1849, t1850, t1851, t1852, t1853⟩, hA1854, h⟩ := h
      dsimp only at h
      refine VL.sC (o_call_b0 FO14 (stock_Get.ok k r111 (a1.extract 0 ((mn (a1.size : Int) 18).toNat)) v114 t1847 t1848 t1849 t1850 t1851 t1852 t1853 hA1854) rfl rfl (ltn rfl) (All_of (.cons (.inr (.inl ⟨_, List.mem_of_getElem? (i := 0) rfl, rfl⟩)) .nil)) (by rintro _ _ _ ⟨rfl, rfl, rfl⟩; rfl)) rfl ?_
      rintro _ _ _ ⟨rfl, rfl, rfl⟩
      refine VL.va (op_move rfl (ltn rfl)) rfl ?_
      refine VL.va (op_extract rfl rfl (ltn rfl)) rfl ?_
      refine VL.va (op_extract rfl rfl (ltn rfl)) rfl ?_
      refine VL.sG (o_alloc (us := [.string (⟨#[]⟩ : ByteArray), .int .i64 0, .int .i64 0, .int .i64 0, .int .i64 0, .int .i64 0]) Z33 rfl (ltn rfl)) rfl ?_
      intro g1855
      refine VL.step1 (o_store 0 6 rfl rfl rfl TI33 (.agg (.c rfl (.c rfl (.c rfl (.c rfl (.c rfl (.c rfl .nil))))))) rfl (len rfl)) rfl ?_
      refine VL.va (op_assign rfl (ltn rfl)) rfl ?_
      refine VL.done ?_
      refine VN.then ?_
      refine VC.seq ?_
      refine VC.region ?_
      refine VL.va (op_move rfl (ltn rfl)) rfl ?_
      refine VL.va (op_move rfl (ltn rfl)) rfl ?_
      refine VL.va (op_move rfl (ltn rfl)) rfl ?_
      replace h := Option.bind_eq_some_iff.1 h
      obtain ⟨⟨r1982, t1983⟩, hA1984, h⟩ := h
      dsimp only at h
      refine VL.sC (o_call_b0 FO8 (stock_Receive.ok k r111 (a1.extract 0 ((mn (a1.size : Int) 18).toNat)) a2 v114 r1982 t1983 hA1984) rfl rfl (ltn rfl) (All_of (.cons (.inr (.inl ⟨_, List.mem_of_getElem? (i := 0) rfl, rfl⟩)) .nil)) (by rintro _ _ _ ⟨v1986, rfl, rfl, rfl⟩; rfl)) rfl ?_
      rintro _ _ _ ⟨v1986, rfl, rfl, rfl⟩
      refine VL.va (op_move rfl (ltn rfl)) rfl ?_
      refine VL.va (op_extract rfl rfl (ltn rfl)) rfl ?_
      refine VL.va (op_extract rfl rfl (ltn rfl)) rfl ?_
      refine VL.va (op_assign rfl (ltn rfl)) rfl ?_
      refine VL.va (op_assign rfl (ltn rfl)) rfl ?_
      refine VL.done ?_
      refine VN.then ?_
      refine VC.seq ?_
      refine VC.region ?_
      refine VL.va (op_move rfl (ltn rfl)) rfl ?_
      refine VL.va (op_move rfl (ltn rfl)) rfl ?_
      refine VL.va (op_move rfl (ltn rfl)) rfl ?_
      replace h := Option.bind_eq_some_iff.1 h
      obtain ⟨⟨r4248, t4249⟩, hA4250, h⟩ := h
      dsimp only at h
      refine VL.sC (o_call_b0 FO17 (tarryref08_Receive.ok k r111 (a1.extract 0 ((mn (a1.size : Int) 18).toNat)) a2 v114 r4248 t4249 hA4250) rfl rfl (ltn rfl) (All_of (.cons (.inr (.inl ⟨_, List.mem_of_getElem? (i := 1) rfl, rfl⟩)) .nil)) (by rintro _ _ _ ⟨v4252, rfl, rfl, rfl⟩; rfl)) rfl ?_
      rintro _ _ _ ⟨v4252, rfl, rfl, rfl⟩
      refine VL.sG (o_alloc (us := [.slice none 0 0, .int .i64 0]) Z43 rfl (ltn rfl)) rfl ?_
      intro g4253
      refine VL.step1 (o_store 0 2 rfl rfl rfl TI43 (.agg (.r 0 rfl (.c rfl .nil))) rfl (len rfl)) rfl ?_
      refine VL.done ?_
      refine VN.then ?_
      refine VC.seq ?_
      refine VC.seq ?_
      refine VC.region ?_
      refine VL.va (op_move rfl (ltn rfl)) rfl ?_
      replace h := Option.bind_eq_some_iff.1 h
      obtain ⟨t4476, hA4477, h⟩ := h
      refine VL.sC (o_call_b0 FO9 (stock_Right.ok k r111 v114 t4476 hA4477) rfl rfl (ltn rfl) (All_of (.cons (.inr (.inl ⟨_, List.mem_of_getElem? (i := 2) rfl, rfl⟩)) .nil)) (by rintro _ _ _ ⟨rfl, rfl, rfl⟩; rfl)) rfl ?_
      rintro _ _ _ ⟨rfl, rfl, rfl⟩
      refine VL.va (op_move rfl (ltn rfl)) rfl ?_
      replace h := Option.bind_eq_some_iff.1 h
      obtain ⟨t4478, hA4479, h⟩ := h
      refine VL.sC (o_call_b0 FO18 (tarryref08_Right.ok k r111 v114 t4478 hA4479) rfl rfl (ltn rfl) (All_of (.cons (.inr (.inl ⟨_, List.mem_of_getElem? (i := 2) rfl, rfl⟩)) .nil)) (by rintro _ _ _ ⟨rfl, rfl, rfl⟩; rfl)) rfl ?_
      rintro _ _ _ ⟨rfl, rfl, rfl⟩
      refine VL.letter ((!(t4476 == t4478))) fun b4480 hb4480 => ?_
      refine VL.va (op_eqb Try.underlying4 rfl rfl (congrArg some hb4480) (ltn rfl)) rfl ?_
      refine VL.va (op_move rfl (ltn rfl)) rfl ?_
      by_cases c4481 : t4476 = t4478
      · rw [if_pos c4481] at h
        obtain rfl : b4480 = false := hb4480.symm.trans (by rw [c4481]; simp)
        refine VL.va (op_move rfl (ltn rfl)) rfl ?_
        refine VL.va (op_fieldAddr FI43_1 rfl (add_at _ _ _) (ltn rfl)) rfl ?_
        refine VL.va (op_load 0 1 rfl rfl TI27 rfl (by decide) (ltn rfl)) rfl ?_
        refine VL.letter ((t1983 != t4249)) fun b4482 hb4482 => ?_
        refine VL.va (op_cmp rfl rfl (congrArg some hb4482) (ltn rfl)) rfl ?_
        refine VL.va (op_pick rfl rfl (ltn rfl)) rfl ?_
        refine VL.va (op_move rfl (ltn rfl)) rfl ?_
        by_cases c4483 : t1983 = t4249
        · rw [if_pos c4483] at h
          obtain rfl : b4482 = false := hb4482.symm.trans (bne_eq_false_iff_eq.2 c4483)
          refine VL.va (op_move rfl (ltn rfl)) rfl ?_
          refine VL.va (op_fieldAddr FI43_0 rfl (add_at _ _ _) (ltn rfl)) rfl ?_
          refine VL.va (op_load 0 1 rfl rfl TI23 rfl (by decide) (ltn rfl)) rfl ?_
          replace h := Option.bind_eq_some_iff.1 h
          obtain ⟨t4484, hA4485, h⟩ := h
          refine VL.sC (o_call_b0 FO12 (tarryref08_Same.ok k r1982 r4248 v1986 v4252 t4484 hA4485) rfl rfl (ltn rfl) (All_of (.cons (.inr (.inl ⟨_, List.mem_of_getElem? (i := 1) rfl, rfl⟩)) (.cons (.inr (.inl ⟨_, List.mem_of_getElem? (i := 0) rfl, rfl⟩)) .nil))) (by rintro _ _ _ ⟨rfl, rfl, rfl⟩; rfl)) rfl ?_
          rintro _ _ _ ⟨rfl, rfl, rfl⟩
          by_cases c4486 : t4484 = true
          · rw [if_pos c4486] at h
            obtain rfl := c4486
            refine VL.va (op_not rfl rfl (ltn rfl)) rfl ?_
            refine VL.va (op_pick rfl rfl (ltn rfl)) rfl ?_
            refine VL.va (op_move rfl (ltn rfl)) rfl ?_
            replace h := Option.bind_eq_some_iff.1 h
            obtain ⟨t4487, hA4488, h⟩ := h
            refine VL.sC (o_call0 FO10 (tarrylaw08_alive.ok k t4487 hA4488) rfl rfl (ltn rfl) (All_of .nil)) rfl ?_
            rintro _ _ _ ⟨rfl, rfl, rfl⟩
            by_cases c4489 : t4487 = true
            · rw [if_pos c4489] at h
              obtain rfl := c4489
              refine VL.va (op_not rfl rfl (ltn rfl)) rfl ?_
              refine VL.va (op_pick rfl rfl (ltn rfl)) rfl ?_
              refine VL.done ?_
              refine VN.then ?_
              refine VC.cond_f rfl ?_
              refine VC.skip ?_
              refine VN.then ?_
              refine VC.seq ?_
              refine VC.seq ?_
              refine VC.region ?_
              refine VL.va (op_assign rfl (ltn rfl)) rfl ?_
              refine VL.done ?_
              refine VN.then ?_
              refine VC.block ?_
              refine VC.loop1 (fun (i5229 : Int) => ⟨123, [(0, v114), (1, .string (a1.extract 0 ((mn (a1.size : Int) 18).toNat))), (2, .int .i64 a2), (6, .bool false), (7, .pointer (some ⟨g1855, 0, none⟩)), (8, .int .i64 t1853), (12, .int .i64 i5229)], [], [(g1855, 33, [.string t1847, .int .i64 t1848, .int .i64 t1849, .int .i64 t1850, .int .i64 t1851, .int .i64 t1852])], [(v114, 33, 6, r111.map enc32)]⟩) (fun (ml1 : Nat) (i5229 : Int) => tarrylaw08_StockMoves.l1 k a1 a2 r111 t1847 t1848 t1849 t1850 t1851 t1852 t1853 ml1 i5229 = some r1) k 1 [1] [2] h ⟨rfl, ⟨rfl, rfl, rfl, rfl, rfl, rfl, rfl, trivial⟩, trivial, rfl, by decide, rfl, by decide⟩ (by intros; simp [tarrylaw08_StockMoves.l1]) ?_
              clear h
              intro ml1 ihl1 i5229 h
              simp only [tarrylaw08_StockMoves.l1] at h
              refine VC.seq ?_
              refine VC.seq ?_
              refine VC.region ?_
              refine VL.va (op_move rfl (ltn rfl)) rfl ?_
              refine VL.letter (decide (i5229 < 5)) fun b5328 hb5328 => ?_
              refine VL.va (op_cmp rfl rfl (congrArg some hb5328) (ltn rfl)) rfl ?_
              refine VL.done ?_
              refine VN.then ?_
              by_cases c5329 : i5229 < 5
              · rw [if_pos c5329] at h
                obtain rfl : b5328 = true := hb5328.symm.trans (decide_eq_true c5329)
                refine VC.cond_t rfl ?_
                refine VC.skip ?_
                refine VN.then ?_
                refine VC.seq ?_
                refine VC.block ?_
                refine VC.seq ?_
                refine VC.region ?_
                refine VL.va (op_move rfl (ltn rfl)) rfl ?_
                refine VL.va (op_move rfl (ltn rfl)) rfl ?_
                refine VL.va (op_move rfl (ltn rfl)) rfl ?_
                refine VL.va (op_move rfl (ltn rfl)) rfl ?_
                replace h := Option.bind_eq_some_iff.1 h
                obtain ⟨⟨r5351, t5352⟩, hA5353, h⟩ := h
                dsimp only at h
                refine VL.sC (o_call_b0 FO7 (tarrylaw08_does.ok k r111 (a1.extract 0 ((mn (a1.size : Int) 18).toNat)) a2 i5229 v114 r5351 t5352 hA5353) rfl rfl (ltn rfl) (All_of (.cons (.inr (.inl ⟨_, List.mem_of_getElem? (i := 0) rfl, rfl⟩)) .nil)) (by rintro _ _ _ ⟨v5355, rfl, rfl, rfl⟩; rfl)) rfl ?_
                rintro _ _ _ ⟨v5355, rfl, rfl, rfl⟩
                refine VL.va (op_move rfl (ltn rfl)) rfl ?_
                refine VL.va (op_extract rfl rfl (ltn rfl)) rfl ?_
                refine VL.va (op_extract rfl rfl (ltn rfl)) rfl ?_
                refine VL.va (op_assign rfl (ltn rfl)) rfl ?_
                refine VL.va (op_assign rfl (ltn rfl)) rfl ?_
                refine VL.done ?_
                refine VN.then ?_
                refine VC.seq ?_
                refine VC.region ?_
                refine VL.va (op_move rfl (ltn rfl)) rfl ?_
                refine VL.va (op_move rfl (ltn rfl)) rfl ?_
                refine VL.va (op_move rfl (ltn rfl)) rfl ?_
                refine VL.va (op_move rfl (ltn rfl)) rfl ?_
                replace h := Option.bind_eq_some_iff.1 h
                obtain ⟨⟨r5356, t5357⟩, hA5358, h⟩ := h
                dsimp only at h
                refine VL.sC (o_call_b0 FO19 (tarryref08_Move.ok k r111 (a1.extract 0 ((mn (a1.size : Int) 18).toNat)) a2 i5229 v114 r5356 t5357 hA5358) rfl rfl (ltn rfl) (All_of (.cons (.inr (.inl ⟨_, List.mem_of_getElem? (i := 1) rfl, rfl⟩)) .nil)) (by rintro _ _ _ ⟨v5360, rfl, rfl, rfl⟩; rfl)) rfl ?_
                rintro _ _ _ ⟨v5360, rfl, rfl, rfl⟩
                refine VL.sG (o_alloc (us := [.slice none 0 0, .int .i64 0]) Z43 rfl (ltn rfl)) rfl ?_
                intro g5361
                refine VL.step1 (o_store 0 2 rfl rfl rfl TI43 (.agg (.r 0 rfl (.c rfl .nil))) rfl (len rfl)) rfl ?_
                refine VL.done ?_
                refine VN.then ?_
                refine VC.seq ?_
                refine VC.region ?_
                refine VL.va (op_move rfl (ltn rfl)) rfl ?_
                refine VL.va (op_fieldAddr FI43_1 rfl (add_at _ _ _) (ltn rfl)) rfl ?_
                refine VL.va (op_load 0 1 rfl rfl TI27 rfl (by decide) (ltn rfl)) rfl ?_
                refine VL.letter ((t5352 != t5357)) fun b5367 hb5367 => ?_
                refine VL.va (op_cmp rfl rfl (congrArg some hb5367) (ltn rfl)) rfl ?_
                refine VL.va (op_move rfl (ltn rfl)) rfl ?_
                by_cases c5368 : t5352 = t5357
                · rw [if_pos c5368] at h
                  obtain rfl : b5367 = false := hb5367.symm.trans (bne_eq_false_iff_eq.2 c5368)
                  refine VL.va (op_move rfl (ltn rfl)) rfl ?_
                  refine VL.va (op_fieldAddr FI43_0 rfl (add_at _ _ _) (ltn rfl)) rfl ?_
                  refine VL.va (op_load 0 1 rfl rfl TI23 rfl (by decide) (ltn rfl)) rfl ?_
                  replace h := Option.bind_eq_some_iff.1 h
                  obtain ⟨t5369, hA5370, h⟩ := h
                  refine VL.sC (o_call_b0 FO12 (tarryref08_Same.ok k r5351 r5356 v5355 v5360 t5369 hA5370) rfl rfl (ltn rfl) (All_of (.cons (.inr (.inl ⟨_, List.mem_of_getElem? (i := 1) rfl, rfl⟩)) (.cons (.inr (.inl ⟨_, List.mem_of_getElem? (i := 0) rfl, rfl⟩)) .nil))) (by rintro _ _ _ ⟨rfl, rfl, rfl⟩; rfl)) rfl ?_
                  rintro _ _ _ ⟨rfl, rfl, rfl⟩
                  by_cases c5371 : t5369 = true
                  · rw [if_pos c5371] at h
                    obtain rfl := c5371
                    refine VL.va (op_not rfl rfl (ltn rfl)) rfl ?_
                    refine VL.va (op_pick rfl rfl (ltn rfl)) rfl ?_
                    refine VL.done ?_
                    refine VN.then ?_
                    refine VC.cond_f rfl ?_
                    refine VC.skip ?_
                    refine VN.block ?_
                    refine VN.then ?_
                    refine VC.region ?_
                    refine VL.va (op_move rfl (ltn rfl)) rfl ?_
                    refine VL.va (op_ari64 rfl rfl rfl (ltn rfl)) rfl ?_
                    refine VL.va (op_assign rfl (ltn rfl)) rfl ?_
                    refine VL.done ?_
                    refine VN.again [1] [2] (ihl1 (wrap64 (i5229 + 1)) h) ⟨rfl, ⟨rfl, rfl, rfl, rfl, rfl, rfl, rfl, trivial⟩, trivial, rfl, by decide, rfl, by decide⟩
                  · rw [if_neg c5371] at h
                    obtain rfl := Bool.eq_false_iff.2 c5371
                    refine VL.va (op_not rfl rfl (ltn rfl)) rfl ?_
                    refine VL.va (op_pick rfl rfl (ltn rfl)) rfl ?_
                    refine VL.done ?_
                    refine VN.then ?_
                    refine VC.cond_t rfl ?_
                    refine VC.seq ?_
                    refine VC.region ?_
                    refine VL.va (op_assign rfl (ltn rfl)) rfl ?_
                    refine VL.done ?_
                    refine VN.then ?_
                    refine VC.ret ?_
                    refine VR.block ?_
                    refine VR.then ?_
                    refine VR.then ?_
                    refine VR.block ?_
                    refine VR.then ?_
                    cases h
                · rw [if_neg c5368] at h
                  obtain rfl : b5367 = true := hb5367.symm.trans (bne_iff_ne.2 c5368)
                  refine VL.un rfl rfl (ltn rfl) ?_
                  refine VL.un rfl rfl (ltn rfl) ?_
                  refine VL.un rfl rfl (ltn rfl) ?_
                  refine VL.un rfl rfl (ltn rfl) ?_
                  refine VL.un rfl rfl (ltn rfl) ?_
                  refine VL.va (op_pick rfl rfl (ltn rfl)) rfl ?_
                  refine VL.done ?_
                  refine VN.then ?_
                  refine VC.cond_t rfl ?_
                  refine VC.seq ?_
                  refine VC.region ?_
                  refine VL.va (op_assign rfl (ltn rfl)) rfl ?_
                  refine VL.done ?_
                  refine VN.then ?_
                  refine VC.ret ?_
                  refine VR.block ?_
                  refine VR.then ?_
                  refine VR.then ?_
                  refine VR.block ?_
                  refine VR.then ?_
                  cases h
              · rw [if_neg c5329] at h
                obtain rfl : b5328 = false := hb5328.symm.trans (decide_eq_false c5329)
                refine VC.cond_f rfl ?_
                refine VC.exit ?_
                refine VX.then ?_
                refine VX.then ?_
                refine VX.hit ?_
                refine VN.then ?_
                refine VC.seq ?_
                refine VC.seq ?_
                refine VC.region ?_
                refine VL.va (op_move rfl (ltn rfl)) rfl ?_
                replace h := Option.bind_eq_some_iff.1 h
                obtain ⟨t5387, hA5388, h⟩ := h
                refine VL.sC (o_call_b0 FO18 (tarryref08_Right.ok k r111 v114 t5387 hA5388) rfl rfl (ltn rfl) (All_of (.cons (.inr (.inl ⟨_, List.mem_of_getElem? (i := 0) rfl, rfl⟩)) .nil)) (by rintro _ _ _ ⟨rfl, rfl, rfl⟩; rfl)) rfl ?_
                rintro _ _ _ ⟨rfl, rfl, rfl⟩
                by_cases c5389 : t5387 = true
                · rw [if_pos c5389] at h
                  obtain rfl := c5389
                  refine VL.va (op_not rfl rfl (ltn rfl)) rfl ?_
                  refine VL.done ?_
                  refine VN.then ?_
                  refine VC.cond_f rfl ?_
                  refine VC.skip ?_
                  refine VN.then ?_
                  refine VC.seq ?_
                  refine VC.region ?_
                  refine VL.va (op_move rfl (ltn rfl)) rfl ?_
                  refine VL.va (op_move rfl (ltn rfl)) rfl ?_
                  replace h := Option.bind_eq_some_iff.1 h
                  obtain ⟨⟨t5390, t5391, t5392, t5393, t5394, t5395⟩, hA5396, h⟩ := h
                  dsimp only at h
                  refine VL.sC (o_call_b0 FO20 (tarryref08_Get.ok k r111 (a1.extract 0 ((mn (a1.size : Int) 18).toNat)) v114 t5390 t5391 t5392 t5393 t5394 t5395 hA5396) rfl rfl (ltn rfl) (All_of (.cons (.inr (.inl ⟨_, List.mem_of_getElem? (i := 0) rfl, rfl⟩)) .nil)) (by rintro _ _ _ ⟨rfl, rfl, rfl⟩; rfl)) rfl ?_
                  rintro _ _ _ ⟨rfl, rfl, rfl⟩
                  refine VL.sG (o_alloc (us := [.string (⟨#[]⟩ : ByteArray), .int .i64 0, .int .i64 0, .int .i64 0, .int .i64 0, .int .i64 0]) Z33 rfl (ltn rfl)) rfl ?_
                  intro g5397
                  refine VL.step1 (o_store 0 6 rfl rfl rfl TI33 (.agg (.c rfl (.c rfl (.c rfl (.c rfl (.c rfl (.c rfl .nil))))))) rfl (len rfl)) rfl ?_
                  refine VL.done ?_
                  refine VN.then ?_
                  refine VC.seq ?_
                  refine VC.region ?_
                  refine VL.va (op_load 1 6 rfl rfl TI33 rfl (fun h => absurd h (by decide)) (ltn rfl)) rfl ?_
                  refine VL.va (op_load 0 6 rfl rfl TI33 rfl (fun h => absurd h (by decide)) (ltn rfl)) rfl ?_
                  refine VL.letter ((((t1847 == t5390) && ((t1848 == t5391) && ((t1849 == t5392) && ((t1850 == t5393) && ((t1851 == t5394) && (t1852 == t5395)))))))) fun b5407 hb5407 => ?_
                  refine VL.va (op_eqS rfl rfl EG33 (EQ33 t1847 t1848 t1849 t1850 t1851 t1852 t5390 t5391 t5392 t5393 t5394 t5395) hb5407 (ltn rfl)) rfl ?_
                  refine VL.va (op_move rfl (ltn rfl)) rfl ?_
                  by_cases c5408 : (((t1847 == t5390) && ((t1848 == t5391) && ((t1849 == t5392) && ((t1850 == t5393) && ((t1851 == t5394) && (t1852 == t5395))))))) = true
                  · rw [if_pos c5408] at h
                    obtain rfl : b5407 = true := hb5407.symm.trans (c5408)
                    refine VL.va (op_move rfl (ltn rfl)) rfl ?_
                    refine VL.letter ((t1853 == 0)) fun b5409 hb5409 => ?_
                    refine VL.va (op_cmp rfl rfl (congrArg some hb5409) (ltn rfl)) rfl ?_
                    refine VL.va (op_fieldAddr FI33_0 rfl (add_at _ _ _) (ltn rfl)) rfl ?_
                    refine VL.va (op_load 0 1 rfl rfl TI9 rfl (by decide) (ltn rfl)) rfl ?_
                    refine VL.letter ((t5390 != (⟨#[]⟩ : ByteArray))) fun b5410 hb5410 => ?_
                    refine VL.va (op_cmps rfl rfl (congrArg some hb5410) (ltn rfl)) rfl ?_
                    subst hb5409
                    subst hb5410
                    refine VL.letter (((t1853 == 0) == (t5390 != (⟨#[]⟩ : ByteArray)))) fun b5411 hb5411 => ?_
                    refine VL.va (op_eqb Try.underlying4 rfl rfl (congrArg some hb5411) (ltn rfl)) rfl ?_
                    refine VL.va (op_pick rfl rfl (ltn rfl)) rfl ?_
                    refine VL.va (op_move rfl (ltn rfl)) rfl ?_
                    by_cases c5412 : (t1853 == 0) = (t5390 != (⟨#[]⟩ : ByteArray))
                    · rw [if_pos c5412] at h
                      obtain rfl : b5411 = true := hb5411.symm.trans (beq_iff_eq.2 c5412)
                      refine VL.va (op_move rfl (ltn rfl)) rfl ?_
                      refine VL.letter ((t1853 == 0)) fun b5413 hb5413 => ?_
                      refine VL.va (op_cmp rfl rfl (congrArg some hb5413) (ltn rfl)) rfl ?_
                      refine VL.va (op_move rfl (ltn rfl)) rfl ?_
                      by_cases c5414 : t1853 = 0
                      · rw [if_pos c5414] at h
                        obtain rfl : b5413 = true := hb5413.symm.trans (beq_iff_eq.2 c5414)
                        refine VL.un rfl rfl (ltn rfl) ?_
                        refine VL.un rfl rfl (ltn rfl) ?_
                        refine VL.va (op_pick rfl rfl (ltn rfl)) rfl ?_
                        refine VL.va (op_pick rfl rfl (ltn rfl)) rfl ?_
                        refine VL.va (op_assign rfl (ltn rfl)) rfl ?_
                        refine VL.done ?_
                        refine VN.then ?_
                        refine VC.ret ?_
                        obtain rfl := Option.some.inj h
                        exact VR.fn (rs := [.tmp 6]) [] [] [] rfl (.tmp rfl .nil) ⟨rfl, rfl, rfl⟩ trivial rfl (by decide)
                      · rw [if_neg c5414] at h
                        obtain rfl : b5413 = false := hb5413.symm.trans (beq_eq_false_iff_ne.2 c5414)
                        refine VL.va (op_move rfl (ltn rfl)) rfl ?_
                        refine VL.letter ((t1853 == 8)) fun b5415 hb5415 => ?_
                        refine VL.va (op_cmp rfl rfl (congrArg some hb5415) (ltn rfl)) rfl ?_
                        refine VL.va (op_pick rfl rfl (ltn rfl)) rfl ?_
                        refine VL.va (op_pick rfl rfl (ltn rfl)) rfl ?_
                        refine VL.va (op_assign rfl (ltn rfl)) rfl ?_
                        refine VL.done ?_
                        refine VN.then ?_
                        refine VC.ret ?_
                        obtain rfl := Option.some.inj h
                        subst hb5415
                        exact VR.fn (rs := [.tmp 6]) [] [] [] rfl (.tmp rfl .nil) ⟨rfl, rfl, rfl⟩ trivial rfl (by decide)
                    · rw [if_neg c5412] at h
                      obtain rfl : b5411 = false := hb5411.symm.trans (beq_eq_false_iff_ne.2 c5412)
                      refine VL.un rfl rfl (ltn rfl) ?_
                      refine VL.un rfl rfl (ltn rfl) ?_
                      refine VL.un rfl rfl (ltn rfl) ?_
                      refine VL.un rfl rfl (ltn rfl) ?_
                      refine VL.un rfl rfl (ltn rfl) ?_
                      refine VL.un rfl rfl (ltn rfl) ?_
                      refine VL.va (op_pick rfl rfl (ltn rfl)) rfl ?_
                      refine VL.va (op_assign rfl (ltn rfl)) rfl ?_
                      refine VL.done ?_
                      refine VN.then ?_
                      refine VC.ret ?_
                      cases h
                  · rw [if_neg c5408] at h
                    obtain rfl : b5407 = false := hb5407.symm.trans (Bool.eq_false_iff.2 c5408)
                    refine VL.un rfl rfl (ltn rfl) ?_
                    refine VL.un rfl rfl (ltn rfl) ?_
                    refine VL.un rfl rfl (ltn rfl) ?_
                    refine VL.un rfl rfl (ltn rfl) ?_
                    refine VL.un rfl rfl (ltn rfl) ?_
                    refine VL.un rfl rfl (ltn rfl) ?_
                    refine VL.va (op_pick rfl rfl (ltn rfl)) rfl ?_
                    refine VL.va (op_move rfl (ltn rfl)) rfl ?_
                    refine VL.un rfl rfl (ltn rfl) ?_
                    refine VL.un rfl rfl (ltn rfl) ?_
                    refine VL.un rfl rfl (ltn rfl) ?_
                    refine VL.un rfl rfl (ltn rfl) ?_
                    refine VL.un rfl rfl (ltn rfl) ?_
                    refine VL.un rfl rfl (ltn rfl) ?_
                    refine VL.va (op_pick rfl rfl (ltn rfl)) rfl ?_
                    refine VL.va (op_assign rfl (ltn rfl)) rfl ?_
                    refine VL.done ?_
                    refine VN.then ?_
                    refine VC.ret ?_
                    cases h
                · rw [if_neg c5389] at h
                  obtain rfl := Bool.eq_false_iff.2 c5389
                  refine VL.va (op_not rfl rfl (ltn rfl)) rfl ?_
                  refine VL.done ?_
                  refine VN.then ?_
                  refine VC.cond_t rfl ?_
                  refine VC.seq ?_
                  refine VC.region ?_
                  refine VL.va (op_move rfl (ltn rfl)) rfl ?_
                  refine VL.letter ((t1853 == 1)) fun b5419 hb5419 => ?_
                  refine VL.va (op_cmp rfl rfl (congrArg some hb5419) (ltn rfl)) rfl ?_
                  refine VL.va (op_move rfl (ltn rfl)) rfl ?_
                  by_cases c5420 : t1853 = 1
                  · rw [if_pos c5420] at h
                    obtain rfl : b5419 = true := hb5419.symm.trans (beq_iff_eq.2 c5420)
                    refine VL.va (op_load 0 6 rfl rfl TI33 rfl (fun h => absurd h (by decide)) (ltn rfl)) rfl ?_
                    refine VL.va (op_build (vals := []) (vcs := []) (cells := [.string (⟨#[]⟩ : ByteArray), .int .i64 0, .int .i64 0, .int .i64 0, .int .i64 0, .int .i64 0]) SI33 rfl .nil (by kernel_rfl) (ltn rfl)) rfl ?_
                    refine VL.letter ((((t1847 == (⟨#[]⟩ : ByteArray)) && ((t1848 == 0) && ((t1849 == 0) && ((t1850 == 0) && ((t1851 == 0) && (t1852 == 0)))))))) fun b5421 hb5421 => ?_
                    refine VL.va (op_eqS rfl rfl EG33 (EQ33 t1847 t1848 t1849 t1850 t1851 t1852 (⟨#[]⟩ : ByteArray) 0 0 0 0 0) hb5421 (ltn rfl)) rfl ?_
                    refine VL.va (op_pick rfl rfl (ltn rfl)) rfl ?_
                    refine VL.va (op_assign rfl (ltn rfl)) rfl ?_
                    refine VL.done ?_
                    refine VN.then ?_
                    refine VC.ret ?_
                    refine VR.then ?_
                    obtain rfl := Option.some.inj h
                    subst hb5421
                    exact VR.fn (rs := [.tmp 6]) [] [] [] rfl (.tmp rfl .nil) ⟨rfl, rfl, rfl⟩ trivial rfl (by decide)
                  · rw [if_neg c5420] at h
                    obtain rfl : b5419 = false := hb5419.symm.trans (beq_eq_false_iff_ne.2 c5420)
                    refine VL.un rfl rfl (ltn rfl) ?_
                    refine VL.un rfl rfl (ltn rfl) ?_
                    refine VL.un rfl rfl (ltn rfl) ?_
                    refine VL.va (op_pick rfl rfl (ltn rfl)) rfl ?_
                    refine VL.va (op_assign rfl (ltn rfl)) rfl ?_
                    refine VL.done ?_
                    refine VN.then ?_
                    refine VC.ret ?_
                    refine VR.then ?_
                    cases h
            · rw [if_neg c4489] at h
              obtain rfl := Bool.eq_false_iff.2 c4489
              refine VL.va (op_not rfl rfl (ltn rfl)) rfl ?_
              refine VL.va (op_pick rfl rfl (ltn rfl)) rfl ?_
              refine VL.done ?_
              refine VN.then ?_
              refine VC.cond_t rfl ?_
              refine VC.seq ?_
              refine VC.region ?_
              refine VL.va (op_assign rfl (ltn rfl)) rfl ?_
              refine VL.done ?_
              refine VN.then ?_
              refine VC.ret ?_
              refine VR.then ?_
              cases h
          · rw [if_neg c4486] at h
            obtain rfl := Bool.eq_false_iff.2 c4486
            refine VL.va (op_not rfl rfl (ltn rfl)) rfl ?_
            refine VL.va (op_pick rfl rfl (ltn rfl)) rfl ?_
            refine VL.va (op_move rfl (ltn rfl)) rfl ?_
            refine VL.un rfl rfl (ltn rfl) ?_
            refine VL.un rfl rfl (ltn rfl) ?_
            refine VL.va (op_pick rfl rfl (ltn rfl)) rfl ?_
            refine VL.done ?_
            refine VN.then ?_
            refine VC.cond_t rfl ?_
            refine VC.seq ?_
            refine VC.region ?_
            refine VL.va (op_assign rfl (ltn rfl)) rfl ?_
            refine VL.done ?_
            refine VN.then ?_
            refine VC.ret ?_
            refine VR.then ?_
            cases h
        · rw [if_neg c4483] at h
          obtain rfl : b4482 = true := hb4482.symm.trans (bne_iff_ne.2 c4483)
          refine VL.un rfl rfl (ltn rfl) ?_
          refine VL.un rfl rfl (ltn rfl) ?_
          refine VL.un rfl rfl (ltn rfl) ?_
          refine VL.un rfl rfl (ltn rfl) ?_
          refine VL.un rfl rfl (ltn rfl) ?_
          refine VL.va (op_pick rfl rfl (ltn rfl)) rfl ?_
          refine VL.va (op_move rfl (ltn rfl)) rfl ?_
          refine VL.un rfl rfl (ltn rfl) ?_
          refine VL.un rfl rfl (ltn rfl) ?_
          refine VL.va (op_pick rfl rfl (ltn rfl)) rfl ?_
          refine VL.done ?_
          refine VN.then ?_
          refine VC.cond_t rfl ?_
          refine VC.seq ?_
          refine VC.region ?_
          refine VL.va (op_assign rfl (ltn rfl)) rfl ?_
          refine VL.done ?_
          refine VN.then ?_
          refine VC.ret ?_
          refine VR.then ?_
          cases h
      · rw [if_neg c4481] at h
        obtain rfl : b4480 = true := hb4480.symm.trans (by simpa using c4481)
        refine VL.un rfl rfl (ltn rfl) ?_
        refine VL.un rfl rfl (ltn rfl) ?_
        refine VL.un rfl rfl (ltn rfl) ?_
        refine VL.un rfl rfl (ltn rfl) ?_
        refine VL.va (op_pick rfl rfl (ltn rfl)) rfl ?_
        refine VL.va (op_move rfl (ltn rfl)) rfl ?_
        refine VL.un rfl rfl (ltn rfl) ?_
        refine VL.un rfl rfl (ltn rfl) ?_
        refine VL.un rfl rfl (ltn rfl) ?_
        refine VL.un rfl rfl (ltn rfl) ?_
        refine VL.un rfl rfl (ltn rfl) ?_
        refine VL.va (op_pick rfl rfl (ltn rfl)) rfl ?_
        refine VL.va (op_move rfl (ltn rfl)) rfl ?_
        refine VL.un rfl rfl (ltn rfl) ?_
        refine VL.un rfl rfl (ltn rfl) ?_
        refine VL.va (op_pick rfl rfl (ltn rfl)) rfl ?_
        refine VL.done ?_
        refine VN.then ?_
        refine VC.cond_t rfl ?_
        refine VC.seq ?_
        refine VC.region ?_
        refine VL.va (op_assign rfl (ltn rfl)) rfl ?_
        refine VL.done ?_
        refine VN.then ?_
        refine VC.ret ?_
        refine VR.then ?_
        cases h
    · rw [if_neg c116] at h; cases h
  · rw [if_neg c115] at h; cases h

end Go.Proofs.Ytibpoajlnloloaa.PStockMoves
