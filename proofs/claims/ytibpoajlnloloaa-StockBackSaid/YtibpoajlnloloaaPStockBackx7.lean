/- Written by a program of this repo: what the program's functions do, each as a Lean function, shown of the loaded code; or a statement's row over that; no condition of its own. -/
import Derived.Test.YtibpoajlnloloaaPStockBackx6
namespace Go.Proofs.Ytibpoajlnloloaa.PStockBack
open Go Go.RowKit Go.Proofs.YtibpoajlnloloaaV
set_option linter.unusedVariables false
set_option linter.unusedSimpArgs false

set_option maxHeartbeats 4000000 in
set_option maxRecDepth 100000 in
theorem tarrylaw08_StockBack.ok (k : Nat) (l0 : List S32) (a1 : ByteArray) (a2 : Int) (v0 : Value) (r1 : Bool) (h : tarrylaw08_StockBack.f k l0 a1 a2 = some r1) :
    VCalls Try.prog 5 [v0, .string a1, .int .i64 a2] [.row v0 6 (l0.map enc32)] (fun v G own => v = .bool r1 ∧ G = [] ∧ own = []) := by
  refine VCalls.intro Try.func5 rfl (len rfl) fun E hC => ?_
  unfold tarrylaw08_StockBack.f at h
  refine VC.seq ?_
  refine VC.region ?_
  refine VL.va (op_assign rfl (ltn rfl)) rfl ?_
  refine VL.done ?_
  refine VN.then ?_
  replace h := Option.bind_eq_some_iff.1 h
  obtain ⟨r111, hA112, h⟩ := h
  by_cases c115 : 0 ≤ mn (a1.size : Int) 18
  · rw [if_pos c115] at h
    by_cases c116 : (mn (a1.size : Int) 18) ≤ (a1.size : Int)
    · rw [if_pos c116] at h
      refine VC.join1 (fun (v114 : Value) => ⟨145, [(0, v114), (1, .string (a1.extract 0 ((mn (a1.size : Int) 18).toNat))), (2, .int .i64 a2), (6, .bool false)], [], [], [(v114, 33, 6, r111.map enc32)]⟩) (fun (v114 : Value) => True) ?_ ?_
      · refine VC.draw ⟨0, [], [], [], []⟩ (by kernel_rfl) rfl (by kernel_rfl) (n := 9) (listed := LB 9 0) ?_
        refine VA.more ⟨0, [], [.row v0 6 (l0.map enc32)], [], []⟩ ⟨trivial, trivial, trivial⟩ ?_
        refine VA.va (i := 0) (listed' := LB 9 1) rfl (op_move rfl (ltn rfl)) rfl (by kernel_rfl) (by kernel_rfl) (by kernel_rfl) (by kernel_rfl) ⟨⟨⟨0, rfl⟩, trivial⟩, trivial, trivial⟩ (fun _ _ _ h => h) ?_
        refine VA.va (i := 2) (listed' := LB 9 5) rfl (op_move rfl (ltn rfl)) rfl (by kernel_rfl) (by kernel_rfl) (by kernel_rfl) (by kernel_rfl) ⟨⟨⟨0, rfl⟩, trivial⟩, trivial, trivial⟩ (fun _ _ _ h => h) ?_
        refine VA.va (i := 3) (listed' := LB 9 13) rfl (op_move rfl (ltn rfl)) rfl (by kernel_rfl) (by kernel_rfl) (by kernel_rfl) (by kernel_rfl) ⟨⟨⟨0, rfl⟩, trivial⟩, trivial, trivial⟩ (fun _ _ _ h => h) ?_
        refine VA.va (i := 4) (listed' := LB 9 29) rfl (op_lens Try.underlying9 rfl (ltn rfl)) rfl (by kernel_rfl) (by kernel_rfl) (by kernel_rfl) (by kernel_rfl) ⟨⟨⟨0, rfl⟩, trivial⟩, trivial, trivial⟩ (fun _ _ _ h => h) ?_
        refine VA.va (i := 5) (listed' := LB 9 61) rfl (op_min rfl rfl (ltn rfl)) rfl (by kernel_rfl) (by kernel_rfl) (by kernel_rfl) (by kernel_rfl) ⟨⟨⟨0, rfl⟩, trivial⟩, trivial, trivial⟩ (fun _ _ _ h => h) ?_
        refine VA.va (i := 6) (listed' := LB 9 125) rfl (op_sliceS 0 ((mn (a1.size : Int) 18).toNat) Try.underlying9 rfl ⟨rfl, ⟨_, _, rfl, c115, rfl⟩, by omega, by omega⟩ rfl (ltn rfl)) rfl (by kernel_rfl) (by kernel_rfl) (by kernel_rfl) (by kernel_rfl) ⟨⟨⟨0, rfl⟩, trivial⟩, trivial, trivial⟩ (fun _ _ _ h => h) ?_
        refine VA.oneC (i := 1) (listed' := LB 9 127) (by kernel_rfl) rfl (o_call0 FO11 (tarrylaw08_few.ok k l0 v0 r111 hA112) rfl rfl (ltn rfl) (All_of (.cons (List.mem_of_getElem? (i := 0) rfl) .nil))) rfl (by kernel_rfl) ?_
        rintro v114 _ _ ⟨_, rfl, rfl, rfl⟩
        refine ⟨⟨⟨⟨0, rfl⟩, trivial⟩, trivial, trivial⟩, ?_⟩
        refine VA.more ⟨0, [], [.row v0 6 (l0.map enc32)], [], [(v114, 33, 6, r111.map enc32)]⟩ ⟨⟨⟨0, rfl⟩, trivial⟩, trivial, trivial⟩ ?_
        refine VA.va (i := 7) (listed' := LB 9 255) rfl (op_assign rfl (ltn rfl)) rfl (by kernel_rfl) (by kernel_rfl) (by kernel_rfl) (by kernel_rfl) ⟨⟨⟨0, rfl⟩, trivial⟩, trivial, ⟨⟨0, rfl⟩, trivial⟩⟩ (fun _ _ _ h => h) ?_
        refine VA.va (i := 8) (listed' := LB 9 511) rfl (op_assign rfl (ltn rfl)) rfl (by kernel_rfl) (by kernel_rfl) (by kernel_rfl) (by kernel_rfl) ⟨⟨⟨0, rfl⟩, trivial⟩, trivial, ⟨⟨0, rfl⟩, trivial⟩⟩ (fun _ _ _ h => h) ?_
        refine VA.done (by kernel_rfl) ?_
        exact VN.meet1 v114 [] [0] trivial ⟨rfl, ⟨rfl, rfl, rfl, rfl, trivial⟩, trivial, rfl, by decide, rfl, by decide⟩
      intro v114 _
      refine VC.seq ?_
      refine VC.region ?_
      refine VL.va (op_move rfl (ltn rfl)) rfl ?_
      refine VL.va (op_move rfl (ltn rfl)) rfl ?_
      refine VL.va (op_move rfl (ltn rfl)) rfl ?_
      replace h := Option.bind_eq_some_iff.1 h
      obtain ⟨⟨r1885, t1886⟩, hA1887, h⟩ := h
      dsimp only at h
      refine VL.sC (o_call_b0 FO13 (stock_Hold.ok k r111 (a1.extract 0 ((mn (a1.size : Int) 18).toNat)) a2 v114 r1885 t1886 hA1887) rfl rfl (ltn rfl) (All_of (.cons (.inr (.inl ⟨_, List.mem_of_getElem? (i := 0) rfl, rfl⟩)) .nil)) (by rintro _ _ _ ⟨v1889, rfl, rfl, rfl⟩; rfl)) rfl ?_
      rintro _ _ _ ⟨v1889, rfl, rfl, rfl⟩
      refine VL.va (op_move rfl (ltn rfl)) rfl ?_
      refine VL.va (op_extract rfl rfl (ltn rfl)) rfl ?_
      refine VL.va (op_extract rfl rfl (ltn rfl)) rfl ?_
      refine VL.va (op_assign rfl (ltn rfl)) rfl ?_
      refine VL.va (op_assign rfl (ltn rfl)) rfl ?_
      refine VL.done ?_
      refine VN.then ?_
      refine VC.seq ?_
      refine VC.region ?_
      refine VL.va (op_move rfl (ltn rfl)) rfl ?_
      refine VL.va (op_move rfl (ltn rfl)) rfl ?_
      replace h := Option.bind_eq_some_iff.1 h
      obtain ⟨⟨t1915, t1916, t1917, t1918, t1919, t1920, t1921⟩, hA1922, h⟩ := h
      dsimp only at h
      refine VL.sC (o_call_b0 FO14 (stock_Get.ok k r111 (a1.extract 0 ((mn (a1.size : Int) 18).toNat)) v114 t1915 t1916 t1917 t1918 t1919 t1920 t1921 hA1922) rfl rfl (ltn rfl) (All_of (.cons (.inr (.inl ⟨_, List.mem_of_getElem? (i := 1) rfl, rfl⟩)) .nil)) (by rintro _ _ _ ⟨rfl, rfl, rfl⟩; rfl)) rfl ?_
      rintro _ _ _ ⟨rfl, rfl, rfl⟩
      refine VL.va (op_move rfl (ltn rfl)) rfl ?_
      refine VL.va (op_extract rfl rfl (ltn rfl)) rfl ?_
      refine VL.va (op_extract rfl rfl (ltn rfl)) rfl ?_
      refine VL.sG (o_alloc (us := [.string (⟨#[]⟩ : ByteArray), .int .i64 0, .int .i64 0, .int .i64 0, .int .i64 0, .int .i64 0]) Z33 rfl (ltn rfl)) rfl ?_
      intro g1923
      refine VL.step1 (o_store 0 6 rfl rfl rfl TI33 (.agg (.c rfl (.c rfl (.c rfl (.c rfl (.c rfl (.c rfl .nil))))))) rfl (len rfl)) rfl ?_
      refine VL.va (op_assign rfl (ltn rfl)) rfl ?_
      refine VL.done ?_
      refine VN.then ?_
      refine VC.seq ?_
      refine VC.seq ?_
      refine VC.region ?_
      refine VL.va (op_move rfl (ltn rfl)) rfl ?_
      refine VL.letter ((t1886 != 0)) fun b2103 hb2103 => ?_
      refine VL.va (op_cmp rfl rfl (congrArg some hb2103) (ltn rfl)) rfl ?_
      refine VL.done ?_
      refine VN.then ?_
      by_cases c2104 : t1886 = 0
      · rw [if_pos c2104] at h
        obtain rfl : b2103 = false := hb2103.symm.trans (bne_eq_false_iff_eq.2 c2104)
        refine VC.cond_f rfl ?_
        refine VC.skip ?_
        refine VN.then ?_
        refine VC.seq ?_
        refine VC.region ?_
        refine VL.va (op_move rfl (ltn rfl)) rfl ?_
        refine VL.va (op_move rfl (ltn rfl)) rfl ?_
        refine VL.va (op_move rfl (ltn rfl)) rfl ?_
        replace h := Option.bind_eq_some_iff.1 h
        obtain ⟨⟨r2168, t2169⟩, hA2170, h⟩ := h
        dsimp only at h
        refine VL.sC (o_call_b0 FO15 (stock_Release.ok k r1885 (a1.extract 0 ((mn (a1.size : Int) 18).toNat)) a2 v1889 r2168 t2169 hA2170) rfl rfl (ltn rfl) (All_of (.cons (.inr (.inl ⟨_, List.mem_of_getElem? (i := 0) rfl, rfl⟩)) .nil)) (by rintro _ _ _ ⟨v2172, rfl, rfl, rfl⟩; rfl)) rfl ?_
        rintro _ _ _ ⟨v2172, rfl, rfl, rfl⟩
        refine VL.va (op_move rfl (ltn rfl)) rfl ?_
        refine VL.va (op_extract rfl rfl (ltn rfl)) rfl ?_
        refine VL.va (op_extract rfl rfl (ltn rfl)) rfl ?_
        refine VL.va (op_assign rfl (ltn rfl)) rfl ?_
        refine VL.va (op_assign rfl (ltn rfl)) rfl ?_
        refine VL.done ?_
        refine VN.then ?_
        refine VC.seq ?_
        refine VC.region ?_
        refine VL.va (op_move rfl (ltn rfl)) rfl ?_
        refine VL.va (op_move rfl (ltn rfl)) rfl ?_
        refine VL.va (op_move rfl (ltn rfl)) rfl ?_
        replace h := Option.bind_eq_some_iff.1 h
        obtain ⟨⟨r2236, t2237⟩, hA2238, h⟩ := h
        dsimp only at h
        refine VL.sC (o_call_b0 FO16 (stock_Ship.ok k r1885 (a1.extract 0 ((mn (a1.size : Int) 18).toNat)) a2 v1889 r2236 t2237 hA2238) rfl rfl (ltn rfl) (All_of (.cons (.inr (.inl ⟨_, List.mem_of_getElem? (i := 1) rfl, rfl⟩)) .nil)) (by rintro _ _ _ ⟨v2240, rfl, rfl, rfl⟩; rfl)) rfl ?_
        rintro _ _ _ ⟨v2240, rfl, rfl, rfl⟩
        refine VL.va (op_move rfl (ltn rfl)) rfl ?_
        refine VL.va (op_extract rfl rfl (ltn rfl)) rfl ?_
        refine VL.va (op_extract rfl rfl (ltn rfl)) rfl ?_
        refine VL.va (op_assign rfl (ltn rfl)) rfl ?_
        refine VL.va (op_assign rfl (ltn rfl)) rfl ?_
        refine VL.done ?_
        refine VN.then ?_
        refine VC.seq ?_
        refine VC.seq ?_
        refine VC.region ?_
        refine VL.va (op_move rfl (ltn rfl)) rfl ?_
        refine VL.letter ((t1921 != 0)) fun b2387 hb2387 => ?_
        refine VL.va (op_cmp rfl rfl (congrArg some hb2387) (ltn rfl)) rfl ?_
        refine VL.va (op_move rfl (ltn rfl)) rfl ?_
        by_cases c2388 : t1921 = 0
        · rw [if_pos c2388] at h
          obtain rfl : b2387 = false := hb2387.symm.trans (bne_eq_false_iff_eq.2 c2388)
          refine VL.va (op_fieldAddr FI33_2 rfl (add_at _ _ _) (ltn rfl)) rfl ?_
          refine VL.va (op_load 0 1 rfl rfl TI3 rfl (by decide) (ltn rfl)) rfl ?_
          refine VL.va (op_move rfl (ltn rfl)) rfl ?_
          refine VL.letter (decide (t1917 < a2)) fun b2389 hb2389 => ?_
          refine VL.va (op_cmp rfl rfl (congrArg some hb2389) (ltn rfl)) rfl ?_
          refine VL.va (op_pick rfl rfl (ltn rfl)) rfl ?_
          refine VL.va (op_move rfl (ltn rfl)) rfl ?_
          by_cases c2390 : t1917 < a2
          · rw [if_pos c2390] at h
            obtain rfl : b2389 = true := hb2389.symm.trans (decide_eq_true c2390)
            refine VL.un rfl rfl (ltn rfl) ?_
            refine VL.un rfl rfl (ltn rfl) ?_
            refine VL.va (op_pick rfl rfl (ltn rfl)) rfl ?_
            refine VL.va (op_move rfl (ltn rfl)) rfl ?_
            refine VL.un rfl rfl (ltn rfl) ?_
            refine VL.un rfl rfl (ltn rfl) ?_
            refine VL.va (op_pick rfl rfl (ltn rfl)) rfl ?_
            refine VL.va (op_move rfl (ltn rfl)) rfl ?_
            refine VL.un rfl rfl (ltn rfl) ?_
            refine VL.un rfl rfl (ltn rfl) ?_
            refine VL.va (op_pick rfl rfl (ltn rfl)) rfl ?_
            refine VL.va (op_move rfl (ltn rfl)) rfl ?_
            refine VL.un rfl rfl (ltn rfl) ?_
            refine VL.un rfl rfl (ltn rfl) ?_
            refine VL.un rfl rfl (ltn rfl) ?_
            refine VL.un rfl rfl (ltn rfl) ?_
            refine VL.va (op_pick rfl rfl (ltn rfl)) rfl ?_
            refine VL.va (op_move rfl (ltn rfl)) rfl ?_
            refine VL.un rfl rfl (ltn rfl) ?_
            refine VL.un rfl rfl (ltn rfl) ?_
            refine VL.un rfl rfl (ltn rfl) ?_
            refine VL.un rfl rfl (ltn rfl) ?_
            refine VL.un rfl rfl (ltn rfl) ?_
            refine VL.va (op_pick rfl rfl (ltn rfl)) rfl ?_
            refine VL.va (op_move rfl (ltn rfl)) rfl ?_
            refine VL.un rfl rfl (ltn rfl) ?_
            refine VL.un rfl rfl (ltn rfl) ?_
            refine VL.un rfl rfl (ltn rfl) ?_
            refine VL.un rfl rfl (ltn rfl) ?_
            refine VL.un rfl rfl (ltn rfl) ?_
            refine VL.va (op_pick rfl rfl (ltn rfl)) rfl ?_
            refine VL.va (op_move rfl (ltn rfl)) rfl ?_
            refine VL.un rfl rfl (ltn rfl) ?_
            refine VL.un rfl rfl (ltn rfl) ?_
            refine VL.va (op_pick rfl rfl (ltn rfl)) rfl ?_
            refine VL.done ?_
            refine VN.then ?_
            refine VC.cond_t rfl ?_
            refine VC.seq ?_
            refine VC.region ?_
            refine VL.va (op_assign rfl (ltn rfl)) rfl ?_
            refine VL.done ?_
            refine VN.then ?_
            refine VC.ret ?_
            refine VR.then ?_
            cases h
          · rw [if_neg c2390] at h
            obtain rfl : b2389 = false := hb2389.symm.trans (decide_eq_false c2390)
            refine VL.va (op_move rfl (ltn rfl)) rfl ?_
            refine VL.letter (decide (a2 < 1)) fun b2391 hb2391 => ?_
            refine VL.va (op_cmp rfl rfl (congrArg some hb2391) (ltn rfl)) rfl ?_
            refine VL.va (op_pick rfl rfl (ltn rfl)) rfl ?_
            refine VL.va (op_move rfl (ltn rfl)) rfl ?_
            by_cases c2392 : a2 < 1
            · rw [if_pos c2392] at h
              obtain rfl : b2391 = true := hb2391.symm.trans (decide_eq_true c2392)
              refine VL.un rfl rfl (ltn rfl) ?_
              refine VL.un rfl rfl (ltn rfl) ?_
              refine VL.va (op_pick rfl rfl (ltn rfl)) rfl ?_
              refine VL.va (op_move rfl (ltn rfl)) rfl ?_
              refine VL.un rfl rfl (ltn rfl) ?_
              refine VL.un rfl rfl (ltn rfl) ?_
              refine VL.va (op_pick rfl rfl (ltn rfl)) rfl ?_
              refine VL.va (op_move rfl (ltn rfl)) rfl ?_
              refine VL.un rfl rfl (ltn rfl) ?_
              refine VL.un rfl rfl (ltn rfl) ?_
              refine VL.un rfl rfl (ltn rfl) ?_
              refine VL.un rfl rfl (ltn rfl) ?_
              refine VL.va (op_pick rfl rfl (ltn rfl)) rfl ?_
              refine VL.va (op_move rfl (ltn rfl)) rfl ?_
              refine VL.un rfl rfl (ltn rfl) ?_
              refine VL.un rfl rfl (ltn rfl) ?_
              refine VL.un rfl rfl (ltn rfl) ?_
              refine VL.un rfl rfl (ltn rfl) ?_
              refine VL.un rfl rfl (ltn rfl) ?_
              refine VL.va (op_pick rfl rfl (ltn rfl)) rfl ?_
              refine VL.va (op_move rfl (ltn rfl)) rfl ?_
              refine VL.un rfl rfl (ltn rfl) ?_
              refine VL.un rfl rfl (ltn rfl) ?_
              refine VL.un rfl rfl (ltn rfl) ?_
              refine VL.un rfl rfl (ltn rfl) ?_
              refine VL.un rfl rfl (ltn rfl) ?_
              refine VL.va (op_pick rfl rfl (ltn rfl)) rfl ?_
              refine VL.va (op_move rfl (ltn rfl)) rfl ?_
              refine VL.un rfl rfl (ltn rfl) ?_
              refine VL.un rfl rfl (ltn rfl) ?_
              refine VL.va (op_pick rfl rfl (ltn rfl)) rfl ?_
              refine VL.done ?_
              refine VN.then ?_
              refine VC.cond_t rfl ?_
              refine VC.seq ?_
              refine VC.region ?_
              refine VL.va (op_assign rfl (ltn rfl)) rfl ?_
              refine VL.done ?_
              refine VN.then ?_
              refine VC.ret ?_
              refine VR.then ?_
              cases h
            · rw [if_neg c2392] at h
              obtain rfl : b2391 = false := hb2391.symm.trans (decide_eq_false c2392)
              refine VL.va (op_move rfl (ltn rfl)) rfl ?_
              refine VL.letter ((t2169 != 0)) fun b2393 hb2393 => ?_
              refine VL.va (op_cmp rfl rfl (congrArg some hb2393) (ltn rfl)) rfl ?_
              refine VL.va (op_pick rfl rfl (ltn rfl)) rfl ?_
              refine VL.va (op_move rfl (ltn rfl)) rfl ?_
              by_cases c2394 : t2169 = 0
              · rw [if_pos c2394] at h
                obtain rfl : b2393 = false := hb2393.symm.trans (bne_eq_false_iff_eq.2 c2394)
                refine VL.va (op_move rfl (ltn rfl)) rfl ?_
                refine VL.letter ((t2237 != 0)) fun b2395 hb2395 => ?_
                refine VL.va (op_cmp rfl rfl (congrArg some hb2395) (ltn rfl)) rfl ?_
                refine VL.va (op_pick rfl rfl (ltn rfl)) rfl ?_
                refine VL.va (op_move rfl (ltn rfl)) rfl ?_
                by_cases c2396 : t2237 = 0
                · rw [if_pos c2396] at h
                  obtain rfl : b2395 = false := hb2395.symm.trans (bne_eq_false_iff_eq.2 c2396)
                  refine VL.va (op_move rfl (ltn rfl)) rfl ?_
                  refine VL.va (op_move rfl (ltn rfl)) rfl ?_
                  replace h := Option.bind_eq_some_iff.1 h
                  obtain ⟨t2397, hA2398, h⟩ := h
                  refine VL.sC (o_call_b0 FO12 (tarryref08_Same.ok k r2168 r111 v2172 v114 t2397 hA2398) rfl rfl (ltn rfl) (All_of (.cons (.inr (.inl ⟨_, List.mem_of_getElem? (i := 1) rfl, rfl⟩)) (.cons (.inr (.inl ⟨_, List.mem_of_getElem? (i := 3) rfl, rfl⟩)) .nil))) (by rintro _ _ _ ⟨rfl, rfl, rfl⟩; rfl)) rfl ?_
                  rintro _ _ _ ⟨rfl, rfl, rfl⟩
                  by_cases c2399 : t2397 = true
                  · rw [if_pos c2399] at h
                    obtain rfl := c2399
                    refine VL.va (op_not rfl rfl (ltn rfl)) rfl ?_
                    refine VL.va (op_pick rfl rfl (ltn rfl)) rfl ?_
                    refine VL.va (op_move rfl (ltn rfl)) rfl ?_
                    refine VL.va (op_move rfl (ltn rfl)) rfl ?_
                    refine VL.va (op_len_own (m := r1885.length) 2 lenm Try.underlying23 rfl rfl (ltn rfl)) rfl ?_
                    refine VL.va (op_move rfl (ltn rfl)) rfl ?_
                    refine VL.va (op_len_own (m := r111.length) 3 lenm Try.underlying23 rfl rfl (ltn rfl)) rfl ?_
                    refine VL.letter (((r1885.length : Int) != (r111.length : Int))) fun b2400 hb2400 => ?_
                    refine VL.va (op_cmp rfl rfl (congrArg some hb2400) (ltn rfl)) rfl ?_
                    refine VL.va (op_pick rfl rfl (ltn rfl)) rfl ?_
                    refine VL.va (op_move rfl (ltn rfl)) rfl ?_
                    by_cases c2401 : (r1885.length : Int) = (r111.length : Int)
                    · rw [if_pos c2401] at h
                      obtain rfl : b2400 = false := hb2400.symm.trans (bne_eq_false_iff_eq.2 c2401)
                      refine VL.va (op_move rfl (ltn rfl)) rfl ?_
                      refine VL.va (op_len_own (m := r2236.length) 0 lenm Try.underlying23 rfl rfl (ltn rfl)) rfl ?_
                      refine VL.va (op_move rfl (ltn rfl)) rfl ?_
                      refine VL.va (op_len_own (m := r111.length) 3 lenm Try.underlying23 rfl rfl (ltn rfl)) rfl ?_
                      refine VL.letter (((r2236.length : Int) != (r111.length : Int))) fun b2402 hb2402 => ?_
                      refine VL.va (op_cmp rfl rfl (congrArg some hb2402) (ltn rfl)) rfl ?_
                      refine VL.va (op_pick rfl rfl (ltn rfl)) rfl ?_
                      refine VL.va (op_move rfl (ltn rfl)) rfl ?_
                      by_cases c2403 : (r2236.length : Int) = (r111.length : Int)
                      · rw [if_pos c2403] at h
                        obtain rfl : b2402 = false := hb2402.symm.trans (bne_eq_false_iff_eq.2 c2403)
                        replace h := Option.bind_eq_some_iff.1 h
                        obtain ⟨t2404, hA2405, h⟩ := h
                        refine VL.sC (o_call0 FO10 (tarrylaw08_alive.ok k t2404 hA2405) rfl rfl (ltn rfl) (All_of .nil)) rfl ?_
                        rintro _ _ _ ⟨rfl, rfl, rfl⟩
                        by_cases c2406 : t2404 = true
                        · rw [if_pos c2406] at h
                          obtain rfl := c2406
                          refine VL.va (op_not rfl rfl (ltn rfl)) rfl ?_
                          refine VL.va (op_pick rfl rfl (ltn rfl)) rfl ?_
                          refine VL.done ?_
                          refine VN.then ?_
                          refine VC.cond_f rfl ?_
                          refine VC.skip ?_
                          refine VN.then ?_
                          refine VC.seq ?_
                          refine VC.seq ?_
                          refine VC.region ?_
                          refine VL.va (op_move rfl (ltn rfl)) rfl ?_
                          refine VL.va (op_len_own (m := r111.length) 3 lenm Try.underlying23 rfl rfl (ltn rfl)) rfl ?_
                          refine VL.va (op_move rfl (ltn rfl)) rfl ?_
                          refine VL.done ?_
                          refine VN.then ?_
                          refine VC.block ?_
                          refine VC.loop1 (fun (i2524 : Int) => ⟨145, [(1, .string (a1.extract 0 ((mn (a1.size : Int) 18).toNat))), (6, .bool false), (7, v1889), (13, v2240), (117, v114), (118, .int .i64 (r111.length : Int)), (119, .int .i64 i2524)], [], [], [(v1889, 33, 6, r1885.map enc32), (v2240, 33, 6, r2236.map enc32), (v114, 33, 6, r111.map enc32)]⟩) (fun (ml1 : Nat) (i2524 : Int) => tarrylaw08_StockBack.l1 k a1 r111 r1885 r2236 ml1 i2524 = some r1) k 0 [] [2, 0, 3] h ⟨rfl, ⟨rfl, rfl, rfl, rfl, rfl, rfl, rfl, trivial⟩, trivial, rfl, by decide, rfl, by decide⟩ (by intros; simp [tarrylaw08_StockBack.l1]) ?_
                          clear h
                          intro ml1 ihl1 i2524 h
                          simp only [tarrylaw08_StockBack.l1] at h
                          refine VC.seq ?_
                          refine VC.region ?_
                          refine VL.letter (decide (i2524 < (r111.length : Int))) fun b2554 hb2554 => ?_
                          refine VL.va (op_cmp rfl rfl (congrArg some hb2554) (ltn rfl)) rfl ?_
                          refine VL.done ?_
                          refine VN.then ?_
                          refine VC.seq ?_
                          by_cases c2556 : i2524 < (r111.length : Int)
                          · rw [if_pos c2556] at h
                            obtain rfl : b2554 = true := hb2554.symm.trans (decide_eq_true c2556)
                            refine VC.cond_t rfl ?_
                            refine VC.skip ?_
                            refine VN.then ?_
                            refine VC.seq ?_
                            refine VC.block ?_
                            refine VC.seq ?_
                            refine VC.region ?_
                            refine VL.va (op_move rfl (ltn rfl)) rfl ?_
                            by_cases c2570 : 0 ≤ i2524
                            · rw [if_pos c2570] at h
                              replace h := Option.bind_eq_some_iff.1 h
                              obtain ⟨x2571, hx2571, h⟩ := h
                              refine VL.openR (m := r111.length) 2 lenm rfl (pos_get hx2571) ?_
                              rintro g2572 n2573 rfl
                              refine VL.va (op_indexAddr Try.underlying23 TI33 rfl rfl c2570 (lt_get c2570 hx2571) (add_zero_at _ _) (ltn rfl)) rfl ?_
                              refine VL.va (op_load_own (sz := 6) (o := 0) 2 i2524.toNat 6 rfl rfl (get_map hx2571) TI33 rfl (fun h => absurd h (by decide)) (ltn rfl)) rfl ?_
                              refine VL.sG (o_alloc (us := [.string (⟨#[]⟩ : ByteArray), .int .i64 0, .int .i64 0, .int .i64 0, .int .i64 0, .int .i64 0]) Z33 rfl (ltn rfl)) rfl ?_
                              intro g2574
                              refine VL.va (op_assign rfl (ltn rfl)) rfl ?_
                              refine VL.step1 (o_store 0 6 rfl rfl rfl TI33 (.agg (.c rfl (.c rfl (.c rfl (.c rfl (.c rfl (.c rfl .nil))))))) rfl (len rfl)) rfl ?_
                              refine VL.done ?_
                              refine VN.then ?_
                              refine VC.letter ((x2571.f0 != (a1.extract 0 ((mn (a1.size : Int) 18).toNat)))) fun b2575 hb2575 => ?_
                              by_cases c2576 : (x2571.f0 == (a1.extract 0 ((mn (a1.size : Int) 18).toNat))) = true
                              · rw [if_pos c2576] at h
                                obtain rfl : b2575 = false := hb2575.symm.trans (bne_of_t c2576)
                                refine VC.join0 (⟨145, [(1, .string (a1.extract 0 ((mn (a1.size : Int) 18).toNat))), (6, .bool false), (7, v1889), (13, v2240), (15, .int .i64 i2524), (16, .pointer (some ⟨g2574, 0, none⟩)), (117, (.slice (some ⟨g2572, 0, none⟩) r111.length n2573)), (118, .int .i64 (r111.length : Int)), (119, .int .i64 i2524), (120, .bool true), (121, .int .i64 i2524), (123, .agg #[.string x2571.f0, .int .i64 x2571.f1, .int .i64 x2571.f2, .int .i64 x2571.f3, .int .i64 x2571.f4, .int .i64 x2571.f5]), (124, .pointer (some ⟨g2574, 0, none⟩)), (125, .string x2571.f0), (126, .string (a1.extract 0 ((mn (a1.size : Int) 18).toNat))), (127, .bool false), (128, .bool false), (129, undef), (130, undef), (131, undef), (132, undef), (133, undef), (134, undef), (135, undef), (136, undef), (137, undef), (138, undef), (139, undef), (140, undef), (141, undef), (142, undef), (143, .bool false)], [], [(g2574, 33, [.string x2571.f0, .int .i64 x2571.f1, .int .i64 x2571.f2, .int .i64 x2571.f3, .int .i64 x2571.f4, .int .i64 x2571.f5])], [(v1889, 33, 6, r1885.map enc32), (v2240, 33, 6, r2236.map enc32), ((.slice (some ⟨g2572, 0, none⟩) r111.length n2573), 33, 6, r111.map enc32)]⟩) (True) ?_ ?_
                                · refine VC.draw ⟨0, [], [], [(g2574, 33, [.string x2571.f0, .int .i64 x2571.f1, .int .i64 x2571.f2, .int .i64 x2571.f3, .int .i64 x2571.f4, .int .i64 x2571.f5])], []⟩ (by kernel_rfl) rfl (by kernel_rfl) (n := 20) (listed := LB 20 0) ?_
                                  refine VA.va (i := 0) (listed' := LB 20 1) rfl (op_fieldAddr FI33_0 rfl (add_at _ _ _) (ltn rfl)) rfl (by kernel_rfl) (by kernel_rfl) (by kernel_rfl) (by kernel_rfl) ⟨trivial, ⟨⟨0, rfl⟩, trivial⟩, trivial⟩ (fun _ _ _ h => h) ?_
                                  refine VA.va (i := 1) (listed' := LB 20 3) rfl (op_load 0 1 rfl rfl TI9 rfl (by decide) (ltn rfl)) rfl (by kernel_rfl) (by kernel_rfl) (by kernel_rfl) (by kernel_rfl) ⟨trivial, ⟨⟨0, rfl⟩, trivial⟩, trivial⟩ (fun _ _ _ h => h) ?_
                                  refine VA.va (i := 2) (listed' := LB 20 7) rfl (op_move rfl (ltn rfl)) rfl (by kernel_rfl) (by kernel_rfl) (by kernel_rfl) (by kernel_rfl) ⟨trivial, ⟨⟨0, rfl⟩, trivial⟩, trivial⟩ (fun _ _ _ h => h) ?_
                                  refine VA.va (i := 3) (listed' := LB 20 15) rfl (op_cmps rfl rfl (congrArg some hb2575) (ltn rfl)) rfl (by kernel_rfl) (by kernel_rfl) (by kernel_rfl) (by kernel_rfl) ⟨trivial, ⟨⟨0, rfl⟩, trivial⟩, trivial⟩ (fun _ _ _ h => h) ?_
                                  refine VA.va (i := 4) (listed' := LB 20 31) rfl (op_move rfl (ltn rfl)) rfl (by kernel_rfl) (by kernel_rfl) (by kernel_rfl) (by kernel_rfl) ⟨trivial, ⟨⟨0, rfl⟩, trivial⟩, trivial⟩ (fun _ _ _ h => h) ?_
                                  refine VA.un (i := 5) (listed' := LB 20 63) rfl rfl rfl (ltn rfl) (by kernel_rfl) (by kernel_rfl) (by kernel_rfl) (by kernel_rfl) ⟨trivial, ⟨⟨0, rfl⟩, trivial⟩, trivial⟩ (fun _ _ _ h => h) ?_
                                  refine VA.un (i := 6) (listed' := LB 20 127) rfl rfl rfl (ltn rfl) (by kernel_rfl) (by kernel_rfl) (by kernel_rfl) (by kernel_rfl) ⟨trivial, ⟨⟨0, rfl⟩, trivial⟩, trivial⟩ (fun _ _ _ h => h) ?_
                                  refine VA.un (i := 7) (listed' := LB 20 255) rfl rfl rfl (ltn rfl) (by kernel_rfl) (by kernel_rfl) (by kernel_rfl) (by kernel_rfl) ⟨trivial, ⟨⟨0, rfl⟩, trivial⟩, trivial⟩ (fun _ _ _ h => h) ?_
                                  refine VA.un (i := 8) (listed' := LB 20 511) rfl rfl rfl (ltn rfl) (by kernel_rfl) (by kernel_rfl) (by kernel_rfl) (by kernel_rfl) ⟨trivial, ⟨⟨0, rfl⟩, trivial⟩, trivial⟩ (fun _ _ _ h => h) ?_
                                  refine VA.un (i := 9) (listed' := LB 20 1023) rfl rfl rfl (ltn rfl) (by kernel_rfl) (by kernel_rfl) (by kernel_rfl) (by kernel_rfl) ⟨trivial, ⟨⟨0, rfl⟩, trivial⟩, trivial⟩ (fun _ _ _ h => h) ?_
                                  refine VA.un (i := 10) (listed' := LB 20 2047) rfl rfl rfl (ltn rfl) (by kernel_rfl) (by kernel_rfl) (by kernel_rfl) (by kernel_rfl) ⟨trivial, ⟨⟨0, rfl⟩, trivial⟩, trivial⟩ (fun _ _ _ h => h) ?_
                                  refine VA.un (i := 11) (listed' := LB 20 4095) rfl rfl rfl (ltn rfl) (by kernel_rfl) (by kernel_rfl) (by kernel_rfl) (by kernel_rfl) ⟨trivial, ⟨⟨0, rfl⟩, trivial⟩, trivial⟩ (fun _ _ _ h => h) ?_
                                  refine VA.un (i := 12) (listed' := LB 20 8191) rfl rfl rfl (ltn rfl) (by kernel_rfl) (by kernel_rfl) (by kernel_rfl) (by kernel_rfl) ⟨trivial, ⟨⟨0, rfl⟩, trivial⟩, trivial⟩ (fun _ _ _ h => h) ?_
                                  refine VA.un (i := 13) (listed' := LB 20 16383) rfl rfl rfl (ltn rfl) (by kernel_rfl) (by kernel_rfl) (by kernel_rfl) (by kernel_rfl) ⟨trivial, ⟨⟨0, rfl⟩, trivial⟩, trivial⟩ (fun _ _ _ h => h) ?_
                                  refine VA.un (i := 14) (listed' := LB 20 32767) rfl rfl rfl (ltn rfl) (by kernel_rfl) (by kernel_rfl) (by kernel_rfl) (by kernel_rfl) ⟨trivial, ⟨⟨0, rfl⟩, trivial⟩, trivial⟩ (fun _ _ _ h => h) ?_
                                  refine VA.un (i := 15) (listed' := LB 20 65535) rfl rfl rfl (ltn rfl) (by kernel_rfl) (by kernel_rfl) (by kernel_rfl) (by kernel_rfl) ⟨trivial, ⟨⟨0, rfl⟩, trivial⟩, trivial⟩ (fun _ _ _ h => h) ?_
                                  refine VA.un (i := 16) (listed' := LB 20 131071) rfl rfl rfl (ltn rfl) (by kernel_rfl) (by kernel_rfl) (by kernel_rfl) (by kernel_rfl) ⟨trivial, ⟨⟨0, rfl⟩, trivial⟩, trivial⟩ (fun _ _ _ h => h) ?_
                                  refine VA.un (i := 17) (listed' := LB 20 262143) rfl rfl rfl (ltn rfl) (by kernel_rfl) (by kernel_rfl) (by kernel_rfl) (by kernel_rfl) ⟨trivial, ⟨⟨0, rfl⟩, trivial⟩, trivial⟩ (fun _ _ _ h => h) ?_
                                  refine VA.un (i := 18) (listed' := LB 20 524287) rfl rfl rfl (ltn rfl) (by kernel_rfl) (by kernel_rfl) (by kernel_rfl) (by kernel_rfl) ⟨trivial, ⟨⟨0, rfl⟩, trivial⟩, trivial⟩ (fun _ _ _ h => h) ?_
                                  refine VA.va (i := 19) (listed' := LB 20 1048575) rfl (op_pick rfl rfl (ltn rfl)) rfl (by kernel_rfl) (by kernel_rfl) (by kernel_rfl) (by kernel_rfl) ⟨trivial, ⟨⟨0, rfl⟩, trivial⟩, trivial⟩ (fun _ _ _ h => h) ?_
                                  refine VA.done (by kernel_rfl) ?_
                                  exact VN.meet0  [0] [0, 1, 2] trivial ⟨rfl, ⟨rfl, rfl, rfl, rfl, rfl, rfl, rfl, rfl, rfl, rfl, rfl, rfl, rfl, rfl, rfl, rfl, rfl, rfl, rfl, rfl, rfl, rfl, rfl, rfl, rfl, rfl, rfl, rfl, rfl, rfl, rfl, rfl, trivial⟩, trivial, rfl, by decide, rfl, by decide⟩
                                intro _
                                refine VC.cond_f rfl ?_
                                refine VC.skip ?_
                                refine VN.block ?_
                                refine VN.then ?_
                                refine VC.region ?_
                                refine VL.va (op_ari64 rfl rfl rfl (ltn rfl)) rfl ?_
                                refine VL.va (op_move rfl (ltn rfl)) rfl ?_
                                refine VL.done ?_
                                refine VN.again [] [0, 1, 2] (ihl1 (wrap64 (i2524 + 1)) h) ⟨rfl, ⟨rfl, rfl, rfl, rfl, rfl, rfl, rfl, trivial⟩, trivial, rfl, by decide, rfl, by decide⟩
                              · rw [if_neg c2576] at h
                                obtain rfl : b2575 = true := hb2575.symm.trans (bne_of_f c2576)
                                replace h := Option.bind_eq_some_iff.1 h
                                obtain ⟨x2577, hx2577, h⟩ := h
                                refine VC.letter ((!(((x2577.f0 == x2571.f0) && ((x2577.f1 == x2571.f1) && ((x2577.f2 == x2571.f2) && ((x2577.f3 == x2571.f3) && ((x2577.f4 == x2571.f4) && (x2577.f5 == x2571.f5))))))))) fun b2578 hb2578 => ?_
                                by_cases c2579 : (((x2577.f0 == x2571.f0) && ((x2577.f1 == x2571.f1) && ((x2577.f2 == x2571.f2) && ((x2577.f3 == x2571.f3) && ((x2577.f4 == x2571.f4) && (x2577.f5 == x2571.f5))))))) = true
                                · rw [if_pos c2579] at h
                                  obtain rfl : b2578 = false := hb2578.symm.trans (not_t c2579)
                                  replace h := Option.bind_eq_some_iff.1 h
                                  obtain ⟨x2580, hx2580, h⟩ := h
                                  refine VC.letter ((!(((x2580.f0 == x2571.f0) && ((x2580.f1 == x2571.f1) && ((x2580.f2 == x2571.f2) && ((x2580.f3 == x2571.f3) && ((x2580.f4 == x2571.f4) && (x2580.f5 == x2571.f5))))))))) fun b2581 hb2581 => ?_
                                  refine VC.openR (m := r1885.length) 0 lenm rfl (pos_get hx2577) ?_
                                  rintro g2417 n2418 rfl
                                  refine VC.openR (m := r2236.length) 1 lenm rfl (pos_get hx2580) ?_
                                  rintro g2422 n2423 rfl
                                  refine VC.join0 (⟨145, [(1, .string (a1.extract 0 ((mn (a1.size : Int) 18).toNat))), (6, .bool false), (7, (.slice (some ⟨g2417, 0, none⟩) r1885.length n2418)), (13, (.slice (some ⟨g2422, 0, none⟩) r2236.length n2423)), (15, .int .i64 i2524), (16, .pointer (some ⟨g2574, 0, none⟩)), (117, (.slice (some ⟨g2572, 0, none⟩) r111.length n2573)), (118, .int .i64 (r111.length : Int)), (119, .int .i64 i2524), (120, .bool true), (121, .int .i64 i2524), (123, .agg #[.string x2571.f0, .int .i64 x2571.f1, .int .i64 x2571.f2, .int .i64 x2571.f3, .int .i64 x2571.f4, .int .i64 x2571.f5]), (124, .pointer (some ⟨g2574, 0, none⟩)), (125, .string x2571.f0), (126, .string (a1.extract 0 ((mn (a1.size : Int) 18).toNat))), (127, .bool true), (128, .bool true), (129, (.slice (some ⟨g2417, 0, none⟩) r1885.length n2418)), (130, .int .i64 i2524), (132, .agg #[.string x2577.f0, .int .i64 x2577.f1, .int .i64 x2577.f2, .int .i64 x2577.f3, .int .i64 x2577.f4, .int .i64 x2577.f5]), (133, .agg #[.string x2571.f0, .int .i64 x2571.f1, .int .i64 x2571.f2, .int .i64 x2571.f3, .int .i64 x2571.f4, .int .i64 x2571.f5]), (134, .bool false), (135, .bool false), (136, (.slice (some ⟨g2422, 0, none⟩) r2236.length n2423)), (137, .int .i64 i2524), (139, .agg #[.string x2580.f0, .int .i64 x2580.f1, .int .i64 x2580.f2, .int .i64 x2580.f3, .int .i64 x2580.f4, .int .i64 x2580.f5]), (140, .agg #[.string x2571.f0, .int .i64 x2571.f1, .int .i64 x2571.f2, .int .i64 x2571.f3, .int .i64 x2571.f4, .int .i64 x2571.f5]), (141, .bool b2581), (142, .bool b2581), (143, .bool b2581)], [], [(g2574, 33, [.string x2571.f0, .int .i64 x2571.f1, .int .i64 x2571.f2, .int .i64 x2571.f3, .int .i64 x2571.f4, .int .i64 x2571.f5])], [((.slice (some ⟨g2417, 0, none⟩) r1885.length n2418), 33, 6, r1885.map enc32), ((.slice (some ⟨g2422, 0, none⟩) r2236.length n2423), 33, 6, r2236.map enc32), ((.slice (some ⟨g2572, 0, none⟩) r111.length n2573), 33, 6, r111.map enc32)]⟩) (True) ?_ ?_
                                  · refine VC.draw ⟨0, [], [], [(g2574, 33, [.string x2571.f0, .int .i64 x2571.f1, .int .i64 x2571.f2, .int .i64 x2571.f3, .int .i64 x2571.f4, .int .i64 x2571.f5])], [((.slice (some ⟨g2417, 0, none⟩) r1885.length n2418), 33, 6, r1885.map enc32), ((.slice (some ⟨g2422, 0, none⟩) r2236.length n2423), 33, 6, r2236.map enc32)]⟩ (by kernel_rfl) rfl (by kernel_rfl) (n := 20) (listed := LB 20 0) ?_
                                    refine VA.va (i := 0) (listed' := LB 20 1) rfl (op_fieldAddr FI33_0 rfl (add_at _ _ _) (ltn rfl)) rfl (by kernel_rfl) (by kernel_rfl) (by kernel_rfl) (by kernel_rfl) ⟨trivial, ⟨⟨0, rfl⟩, trivial⟩, ⟨⟨0, rfl⟩, ⟨1, rfl⟩, trivial⟩⟩ (fun _ _ _ h => h) ?_
                                    refine VA.va (i := 1) (listed' := LB 20 3) rfl (op_load 0 1 rfl rfl TI9 rfl (by decide) (ltn rfl)) rfl (by kernel_rfl) (by kernel_rfl) (by kernel_rfl) (by kernel_rfl) ⟨trivial, ⟨⟨0, rfl⟩, trivial⟩, ⟨⟨0, rfl⟩, ⟨1, rfl⟩, trivial⟩⟩ (fun _ _ _ h => h) ?_
                                    refine VA.va (i := 2) (listed' := LB 20 7) rfl (op_move rfl (ltn rfl)) rfl (by kernel_rfl) (by kernel_rfl) (by kernel_rfl) (by kernel_rfl) ⟨trivial, ⟨⟨0, rfl⟩, trivial⟩, ⟨⟨0, rfl⟩, ⟨1, rfl⟩, trivial⟩⟩ (fun _ _ _ h => h) ?_
                                    refine VA.va (i := 3) (listed' := LB 20 15) rfl (op_cmps rfl rfl (congrArg some hb2575) (ltn rfl)) rfl (by kernel_rfl) (by kernel_rfl) (by kernel_rfl) (by kernel_rfl) ⟨trivial, ⟨⟨0, rfl⟩, trivial⟩, ⟨⟨0, rfl⟩, ⟨1, rfl⟩, trivial⟩⟩ (fun _ _ _ h => h) ?_
                                    refine VA.va (i := 4) (listed' := LB 20 31) rfl (op_move rfl (ltn rfl)) rfl (by kernel_rfl) (by kernel_rfl) (by kernel_rfl) (by kernel_rfl) ⟨trivial, ⟨⟨0, rfl⟩, trivial⟩, ⟨⟨0, rfl⟩, ⟨1, rfl⟩, trivial⟩⟩ (fun _ _ _ h => h) ?_
                                    refine VA.va (i := 5) (listed' := LB 20 63) rfl (op_move rfl (ltn rfl)) rfl (by kernel_rfl) (by kernel_rfl) (by kernel_rfl) (by kernel_rfl) ⟨trivial, ⟨⟨0, rfl⟩, trivial⟩, ⟨⟨0, rfl⟩, ⟨1, rfl⟩, trivial⟩⟩ (fun _ _ _ h => h) ?_
                                    refine VA.va (i := 6) (listed' := LB 20 127) rfl (op_move rfl (ltn rfl)) rfl (by kernel_rfl) (by kernel_rfl) (by kernel_rfl) (by kernel_rfl) ⟨trivial, ⟨⟨0, rfl⟩, trivial⟩, ⟨⟨0, rfl⟩, ⟨1, rfl⟩, trivial⟩⟩ (fun _ _ _ h => h) ?_
                                    refine VA.va (i := 7) (listed' := LB 20 255) rfl (op_indexAddr Try.underlying23 TI33 rfl rfl c2570 (lt_get c2570 hx2577) (add_zero_at _ _) (ltn rfl)) rfl (by kernel_rfl) (by kernel_rfl) (by kernel_rfl) (by kernel_rfl) ⟨trivial, ⟨⟨0, rfl⟩, trivial⟩, ⟨⟨0, rfl⟩, ⟨1, rfl⟩, trivial⟩⟩ (fun _ _ _ h => h) ?_
                                    refine VA.va (i := 8) (listed' := LB 20 511) rfl (op_load_own (sz := 6) (o := 0) 0 i2524.toNat 6 rfl rfl (get_map hx2577) TI33 rfl (fun h => absurd h (by decide)) (ltn rfl)) rfl (by kernel_rfl) (by kernel_rfl) (by kernel_rfl) (by kernel_rfl) ⟨trivial, ⟨⟨0, rfl⟩, trivial⟩, ⟨⟨0, rfl⟩, ⟨1, rfl⟩, trivial⟩⟩ (fun _ _ _ h => h) ?_
                                    refine VA.va (i := 9) (listed' := LB 20 1023) rfl (op_load 0 6 rfl rfl TI33 rfl (fun h => absurd h (by decide)) (ltn rfl)) rfl (by kernel_rfl) (by kernel_rfl) (by kernel_rfl) (by kernel_rfl) ⟨trivial, ⟨⟨0, rfl⟩, trivial⟩, ⟨⟨0, rfl⟩, ⟨1, rfl⟩, trivial⟩⟩ (fun _ _ _ h => h) ?_
                                    refine VA.va (i := 10) (listed' := LB 20 2047) rfl (op_neS rfl rfl EG33 (EQ33 x2577.f0 x2577.f1 x2577.f2 x2577.f3 x2577.f4 x2577.f5 x2571.f0 x2571.f1 x2571.f2 x2571.f3 x2571.f4 x2571.f5) hb2578 (ltn rfl)) rfl (by kernel_rfl) (by kernel_rfl) (by kernel_rfl) (by kernel_rfl) ⟨trivial, ⟨⟨0, rfl⟩, trivial⟩, ⟨⟨0, rfl⟩, ⟨1, rfl⟩, trivial⟩⟩ (fun _ _ _ h => h) ?_
                                    refine VA.va (i := 11) (listed' := LB 20 4095) rfl (op_move rfl (ltn rfl)) rfl (by kernel_rfl) (by kernel_rfl) (by kernel_rfl) (by kernel_rfl) ⟨trivial, ⟨⟨0, rfl⟩, trivial⟩, ⟨⟨0, rfl⟩, ⟨1, rfl⟩, trivial⟩⟩ (fun _ _ _ h => h) ?_
                                    refine VA.va (i := 12) (listed' := LB 20 8191) rfl (op_move rfl (ltn rfl)) rfl (by kernel_rfl) (by kernel_rfl) (by kernel_rfl) (by kernel_rfl) ⟨trivial, ⟨⟨0, rfl⟩, trivial⟩, ⟨⟨0, rfl⟩, ⟨1, rfl⟩, trivial⟩⟩ (fun _ _ _ h => h) ?_
                                    refine VA.va (i := 13) (listed' := LB 20 16383) rfl (op_move rfl (ltn rfl)) rfl (by kernel_rfl) (by kernel_rfl) (by kernel_rfl) (by kernel_rfl) ⟨trivial, ⟨⟨0, rfl⟩, trivial⟩, ⟨⟨0, rfl⟩, ⟨1, rfl⟩, trivial⟩⟩ (fun _ _ _ h => h) ?_
                                    refine VA.va (i := 14) (listed' := LB 20 32767) rfl (op_indexAddr Try.underlying23 TI33 rfl rfl c2570 (lt_get c2570 hx2580) (add_zero_at _ _) (ltn rfl)) rfl (by kernel_rfl) (by kernel_rfl) (by kernel_rfl) (by kernel_rfl) ⟨trivial, ⟨⟨0, rfl⟩, trivial⟩, ⟨⟨0, rfl⟩, ⟨1, rfl⟩, trivial⟩⟩ (fun _ _ _ h => h) ?_
                                    refine VA.va (i := 15) (listed' := LB 20 65535) rfl (op_load_own (sz := 6) (o := 0) 1 i2524.toNat 6 rfl rfl (get_map hx2580) TI33 rfl (fun h => absurd h (by decide)) (ltn rfl)) rfl (by kernel_rfl) (by kernel_rfl) (by kernel_rfl) (by kernel_rfl) ⟨trivial, ⟨⟨0, rfl⟩, trivial⟩, ⟨⟨0, rfl⟩, ⟨1, rfl⟩, trivial⟩⟩ (fun _ _ _ h => h) ?_
                                    refine VA.va (i := 16) (listed' := LB 20 131071) rfl (op_load 0 6 rfl rfl TI33 rfl (fun h => absurd h (by decide)) (ltn rfl)) rfl (by kernel_rfl) (by kernel_rfl) (by kernel_rfl) (by kernel_rfl) ⟨trivial, ⟨⟨0, rfl⟩, trivial⟩, ⟨⟨0, rfl⟩, ⟨1, rfl⟩, trivial⟩⟩ (fun _ _ _ h => h) ?_
                                    refine VA.va (i := 17) (listed' := LB 20 262143) rfl (op_neS rfl rfl EG33 (EQ33 x2580.f0 x2580.f1 x2580.f2 x2580.f3 x2580.f4 x2580.f5 x2571.f0 x2571.f1 x2571.f2 x2571.f3 x2571.f4 x2571.f5) hb2581 (ltn rfl)) rfl (by kernel_rfl) (by kernel_rfl) (by kernel_rfl) (by kernel_rfl) ⟨trivial, ⟨⟨0, rfl⟩, trivial⟩, ⟨⟨0, rfl⟩, ⟨1, rfl⟩, trivial⟩⟩ (fun _ _ _ h => h) ?_
                                    refine VA.va (i := 18) (listed' := LB 20 524287) rfl (op_pick rfl rfl (ltn rfl)) rfl (by kernel_rfl) (by kernel_rfl) (by kernel_rfl) (by kernel_rfl) ⟨trivial, ⟨⟨0, rfl⟩, trivial⟩, ⟨⟨0, rfl⟩, ⟨1, rfl⟩, trivial⟩⟩ (fun _ _ _ h => h) ?_
                                    refine VA.va (i := 19) (listed' := LB 20 1048575) rfl (op_pick rfl rfl (ltn rfl)) rfl (by kernel_rfl) (by kernel_rfl) (by kernel_rfl) (by kernel_rfl) ⟨trivial, ⟨⟨0, rfl⟩, trivial⟩, ⟨⟨0, rfl⟩, ⟨1, rfl⟩, trivial⟩⟩ (fun _ _ _ h => h) ?_
                                    refine VA.done (by kernel_rfl) ?_
                                    exact VN.meet0  [0] [0, 1, 2] trivial ⟨rfl, ⟨rfl, rfl, rfl, rfl, rfl, rfl, rfl, rfl, rfl, rfl, rfl, rfl, rfl, rfl, rfl, rfl, rfl, rfl, rfl, rfl, rfl, rfl, rfl, rfl, rfl, rfl, rfl, rfl, rfl, rfl, trivial⟩, trivial, rfl, by decide, rfl, by decide⟩
                                  intro _
                                  by_cases c2582 : (((x2580.f0 == x2571.f0) && ((x2580.f1 == x2571.f1) && ((x2580.f2 == x2571.f2) && ((x2580.f3 == x2571.f3) && ((x2580.f4 == x2571.f4) && (x2580.f5 == x2571.f5))))))) = true
                                  · rw [if_pos c2582] at h
                                    obtain rfl : b2581 = false := hb2581.symm.trans (not_t c2582)
                                    refine VC.cond_f rfl ?_
                                    refine VC.skip ?_
                                    refine VN.block ?_
                                    refine VN.then ?_
                                    refine VC.region ?_
                                    refine VL.va (op_ari64 rfl rfl rfl (ltn rfl)) rfl ?_
                                    refine VL.va (op_move rfl (ltn rfl)) rfl ?_
                                    refine VL.done ?_
                                    refine VN.again [] [0, 1, 2] (ihl1 (wrap64 (i2524 + 1)) h) ⟨rfl, ⟨rfl, rfl, rfl, rfl, rfl, rfl, rfl, trivial⟩, trivial, rfl, by decide, rfl, by decide⟩
                                  · rw [if_neg c2582] at h
                                    obtain rfl : b2581 = true := hb2581.symm.trans (not_f c2582)
                                    refine VC.cond_t rfl ?_
                                    refine VC.seq ?_
                                    refine VC.region ?_
                                    refine VL.va (op_assign rfl (ltn rfl)) rfl ?_
                                    refine VL.done ?_
                                    refine VN.then ?_
                                    refine VC.ret ?_
                                    refine VR.block ?_
                                    refine VR.then ?_
                                    refine VR.then ?_
                                    refine VR.block ?_
                                    refine VR.then ?_
                                    cases h
                                · rw [if_neg c2579] at h
                                  obtain rfl : b2578 = true := hb2578.symm.trans (not_f c2579)
                                  refine VC.openR (m := r1885.length) 0 lenm rfl (pos_get hx2577) ?_
                                  rintro g2417 n2418 rfl
                                  refine VC.join0 (⟨145, [(1, .string (a1.extract 0 ((mn (a1.size : Int) 18).toNat))), (6, .bool false), (7, (.slice (some ⟨g2417, 0, none⟩) r1885.length n2418)), (13, v2240), (15, .int .i64 i2524), (16, .pointer (some ⟨g2574, 0, none⟩)), (117, (.slice (some ⟨g2572, 0, none⟩) r111.length n2573)), (118, .int .i64 (r111.length : Int)), (119, .int .i64 i2524), (120, .bool true), (121, .int .i64 i2524), (123, .agg #[.string x2571.f0, .int .i64 x2571.f1, .int .i64 x2571.f2, .int .i64 x2571.f3, .int .i64 x2571.f4, .int .i64 x2571.f5]), (124, .pointer (some ⟨g2574, 0, none⟩)), (125, .string x2571.f0), (126, .string (a1.extract 0 ((mn (a1.size : Int) 18).toNat))), (127, .bool true), (128, .bool true), (129, (.slice (some ⟨g2417, 0, none⟩) r1885.length n2418)), (130, .int .i64 i2524), (132, .agg #[.string x2577.f0, .int .i64 x2577.f1, .int .i64 x2577.f2, .int .i64 x2577.f3, .int .i64 x2577.f4, .int .i64 x2577.f5]), (133, .agg #[.string x2571.f0, .int .i64 x2571.f1, .int .i64 x2571.f2, .int .i64 x2571.f3, .int .i64 x2571.f4, .int .i64 x2571.f5]), (134, .bool true), (135, .bool true), (136, undef), (137, undef), (138, undef), (139, undef), (140, undef), (141, undef), (142, .bool true), (143, .bool true)], [], [(g2574, 33, [.string x2571.f0, .int .i64 x2571.f1, .int .i64 x2571.f2, .int .i64 x2571.f3, .int .i64 x2571.f4, .int .i64 x2571.f5])], [((.slice (some ⟨g2417, 0, none⟩) r1885.length n2418), 33, 6, r1885.map enc32), (v2240, 33, 6, r2236.map enc32), ((.slice (some ⟨g2572, 0, none⟩) r111.length n2573), 33, 6, r111.map enc32)]⟩) (True) ?_ ?_
                                  · refine VC.draw ⟨0, [], [], [(g2574, 33, [.string x2571.f0, .int .i64 x2571.f1, .int .i64 x2571.f2, .int .i64 x2571.f3, .int .i64 x2571.f4, .int .i64 x2571.f5])], [((.slice (some ⟨g2417, 0, none⟩) r1885.length n2418), 33, 6, r1885.map enc32)]⟩ (by kernel_rfl) rfl (by kernel_rfl) (n := 20) (listed := LB 20 0) ?_
                                    refine VA.va (i := 0) (listed' := LB 20 1) rfl (op_fieldAddr FI33_0 rfl (add_at _ _ _) (ltn rfl)) rfl (by kernel_rfl) (by kernel_rfl) (by kernel_rfl) (by kernel_rfl) ⟨trivial, ⟨⟨0, rfl⟩, trivial⟩, ⟨⟨0, rfl⟩, trivial⟩⟩ (fun _ _ _ h => h) ?_
                                    refine VA.va (i := 1) (listed' := LB 20 3) rfl (op_load 0 1 rfl rfl TI9 rfl (by decide) (ltn rfl)) rfl (by kernel_rfl) (by kernel_rfl) (by kernel_rfl) (by kernel_rfl) ⟨trivial, ⟨⟨0, rfl⟩, trivial⟩, ⟨⟨0, rfl⟩, trivial⟩⟩ (fun _ _ _ h => h) ?_
                                    refine VA.va (i := 2) (listed' := LB 20 7) rfl (op_move rfl (ltn rfl)) rfl (by kernel_rfl) (by kernel_rfl) (by kernel_rfl) (by kernel_rfl) ⟨trivial, ⟨⟨0, rfl⟩, trivial⟩, ⟨⟨0, rfl⟩, trivial⟩⟩ (fun _ _ _ h => h) ?_
                                    refine VA.va (i := 3) (listed' := LB 20 15) rfl (op_cmps rfl rfl (congrArg some hb2575) (ltn rfl)) rfl (by kernel_rfl) (by kernel_rfl) (by kernel_rfl) (by kernel_rfl) ⟨trivial, ⟨⟨0, rfl⟩, trivial⟩, ⟨⟨0, rfl⟩, trivial⟩⟩ (fun _ _ _ h => h) ?_
                                    refine VA.va (i := 4) (listed' := LB 20 31) rfl (op_move rfl (ltn rfl)) rfl (by kernel_rfl) (by kernel_rfl) (by kernel_rfl) (by kernel_rfl) ⟨trivial, ⟨⟨0, rfl⟩, trivial⟩, ⟨⟨0, rfl⟩, trivial⟩⟩ (fun _ _ _ h => h) ?_
                                    refine VA.va (i := 5) (listed' := LB 20 63) rfl (op_move rfl (ltn rfl)) rfl (by kernel_rfl) (by kernel_rfl) (by kernel_rfl) (by kernel_rfl) ⟨trivial, ⟨⟨0, rfl⟩, trivial⟩, ⟨⟨0, rfl⟩, trivial⟩⟩ (fun _ _ _ h => h) ?_
                                    refine VA.va (i := 6) (listed' := LB 20 127) rfl (op_move rfl (ltn rfl)) rfl (by kernel_rfl) (by kernel_rfl) (by kernel_rfl) (by kernel_rfl) ⟨trivial, ⟨⟨0, rfl⟩, trivial⟩, ⟨⟨0, rfl⟩, trivial⟩⟩ (fun _ _ _ h => h) ?_
                                    refine VA.va (i := 7) (listed' := LB 20 255) rfl (op_indexAddr Try.underlying23 TI33 rfl rfl c2570 (lt_get c2570 hx2577) (add_zero_at _ _) (ltn rfl)) rfl (by kernel_rfl) (by kernel_rfl) (by kernel_rfl) (by kernel_rfl) ⟨trivial, ⟨⟨0, rfl⟩, trivial⟩, ⟨⟨0, rfl⟩, trivial⟩⟩ (fun _ _ _ h => h) ?_
                                    refine VA.va (i := 8) (listed' := LB 20 511) rfl (op_load_own (sz := 6) (o := 0) 0 i2524.toNat 6 rfl rfl (get_map hx2577) TI33 rfl (fun h => absurd h (by decide)) (ltn rfl)) rfl (by kernel_rfl) (by kernel_rfl) (by kernel_rfl) (by kernel_rfl) ⟨trivial, ⟨⟨0, rfl⟩, trivial⟩, ⟨⟨0, rfl⟩, trivial⟩⟩ (fun _ _ _ h => h) ?_
                                    refine VA.va (i := 9) (listed' := LB 20 1023) rfl (op_load 0 6 rfl rfl TI33 rfl (fun h => absurd h (by decide)) (ltn rfl)) rfl (by kernel_rfl) (by kernel_rfl) (by kernel_rfl) (by kernel_rfl) ⟨trivial, ⟨⟨0, rfl⟩, trivial⟩, ⟨⟨0, rfl⟩, trivial⟩⟩ (fun _ _ _ h => h) ?_
                                    refine VA.va (i := 10) (listed' := LB 20 2047) rfl (op_neS rfl rfl EG33 (EQ33 x2577.f0 x2577.f1 x2577.f2 x2577.f3 x2577.f4 x2577.f5 x2571.f0 x2571.f1 x2571.f2 x2571.f3 x2571.f4 x2571.f5) hb2578 (ltn rfl)) rfl (by kernel_rfl) (by kernel_rfl) (by kernel_rfl) (by kernel_rfl) ⟨trivial, ⟨⟨0, rfl⟩, trivial⟩, ⟨⟨0, rfl⟩, trivial⟩⟩ (fun _ _ _ h => h) ?_
                                    refine VA.va (i := 11) (listed' := LB 20 4095) rfl (op_move rfl (ltn rfl)) rfl (by kernel_rfl) (by kernel_rfl) (by kernel_rfl) (by kernel_rfl) ⟨trivial, ⟨⟨0, rfl⟩, trivial⟩, ⟨⟨0, rfl⟩, trivial⟩⟩ (fun _ _ _ h => h) ?_
                                    refine VA.un (i := 12) (listed' := LB 20 8191) rfl rfl rfl (ltn rfl) (by kernel_rfl) (by kernel_rfl) (by kernel_rfl) (by kernel_rfl) ⟨trivial, ⟨⟨0, rfl⟩, trivial⟩, ⟨⟨0, rfl⟩, trivial⟩⟩ (fun _ _ _ h => h) ?_
                                    refine VA.un (i := 13) (listed' := LB 20 16383) rfl rfl rfl (ltn rfl) (by kernel_rfl) (by kernel_rfl) (by kernel_rfl) (by kernel_rfl) ⟨trivial, ⟨⟨0, rfl⟩, trivial⟩, ⟨⟨0, rfl⟩, trivial⟩⟩ (fun _ _ _ h => h) ?_
                                    refine VA.un (i := 14) (listed' := LB 20 32767) rfl rfl rfl (ltn rfl) (by kernel_rfl) (by kernel_rfl) (by kernel_rfl) (by kernel_rfl) ⟨trivial, ⟨⟨0, rfl⟩, trivial⟩, ⟨⟨0, rfl⟩, trivial⟩⟩ (fun _ _ _ h => h) ?_
                                    refine VA.un (i := 15) (listed' := LB 20 65535) rfl rfl rfl (ltn rfl) (by kernel_rfl) (by kernel_rfl) (by kernel_rfl) (by kernel_rfl) ⟨trivial, ⟨⟨0, rfl⟩, trivial⟩, ⟨⟨0, rfl⟩, trivial⟩⟩ (fun _ _ _ h => h) ?_
                                    refine VA.un (i := 16) (listed' := LB 20 131071) rfl rfl rfl (ltn rfl) (by kernel_rfl) (by kernel_rfl) (by kernel_rfl) (by kernel_rfl) ⟨trivial, ⟨⟨0, rfl⟩, trivial⟩, ⟨⟨0, rfl⟩, trivial⟩⟩ (fun _ _ _ h => h) ?_
                                    refine VA.un (i := 17) (listed' := LB 20 262143) rfl rfl rfl (ltn rfl) (by kernel_rfl) (by kernel_rfl) (by kernel_rfl) (by kernel_rfl) ⟨trivial, ⟨⟨0, rfl⟩, trivial⟩, ⟨⟨0, rfl⟩, trivial⟩⟩ (fun _ _ _ h => h) ?_
                                    refine VA.va (i := 18) (listed' := LB 20 524287) rfl (op_pick rfl rfl (ltn rfl)) rfl (by kernel_rfl) (by kernel_rfl) (by kernel_rfl) (by kernel_rfl) ⟨trivial, ⟨⟨0, rfl⟩, trivial⟩, ⟨⟨0, rfl⟩, trivial⟩⟩ (fun _ _ _ h => h) ?_
                                    refine VA.va (i := 19) (listed' := LB 20 1048575) rfl (op_pick rfl rfl (ltn rfl)) rfl (by kernel_rfl) (by kernel_rfl) (by kernel_rfl) (by kernel_rfl) ⟨trivial, ⟨⟨0, rfl⟩, trivial⟩, ⟨⟨0, rfl⟩, trivial⟩⟩ (fun _ _ _ h => h) ?_
                                    refine VA.done (by kernel_rfl) ?_
                                    exact VN.meet0  [0] [0, 1, 2] trivial ⟨rfl, ⟨rfl, rfl, rfl, rfl, rfl, rfl, rfl, rfl, rfl, rfl, rfl, rfl, rfl, rfl, rfl, rfl, rfl, rfl, rfl, rfl, rfl, rfl, rfl, rfl, rfl, rfl, rfl, rfl, rfl, rfl, rfl, trivial⟩, trivial, rfl, by decide, rfl, by decide⟩
                                  intro _
                                  refine VC.cond_t rfl ?_
                                  refine VC.seq ?_
                                  refine VC.region ?_
                                  refine VL.va (op_assign rfl (ltn rfl)) rfl ?_
                                  refine VL.done ?_
                                  refine VN.then ?_
                                  refine VC.ret ?_
                                  refine VR.block ?_
                                  refine VR.then ?_
                                  refine VR.then ?_
                                  refine VR.block ?_
                                  refine VR.then ?_
                                  cases h
                            · rw [if_neg c2570] at h; cases h
                          · rw [if_neg c2556] at h
                            obtain rfl : b2554 = false := hb2554.symm.trans (decide_eq_false c2556)
                            refine VC.cond_f rfl ?_
                            refine VC.exit ?_
                            refine VX.then ?_
                            refine VX.then ?_
                            refine VX.hit ?_
                            refine VN.then ?_
                            refine VC.seq ?_
                            refine VC.region ?_
                            refine VL.va (op_assign rfl (ltn rfl)) rfl ?_
                            refine VL.done ?_
                            refine VN.then ?_
                            refine VC.ret ?_
                            obtain rfl := Option.some.inj h
                            exact VR.fn (rs := [.tmp 6]) [] [] [] rfl (.tmp rfl .nil) ⟨rfl, rfl, rfl⟩ trivial rfl (by decide)
                        · rw [if_neg c2406] at h
                          obtain rfl := Bool.eq_false_iff.2 c2406
                          refine VL.va (op_not rfl rfl (ltn rfl)) rfl ?_
                          refine VL.va (op_pick rfl rfl (ltn rfl)) rfl ?_
                          refine VL.done ?_
                          refine VN.then ?_
                          refine VC.cond_t rfl ?_
                          refine VC.seq ?_
                          refine VC.region ?_
                          refine VL.va (op_assign rfl (ltn rfl)) rfl ?_
                          refine VL.done ?_
                          refine VN.then ?_
                          refine VC.ret ?_
                          refine VR.then ?_
                          cases h
                      · rw [if_neg c2403] at h
                        obtain rfl : b2402 = true := hb2402.symm.trans (bne_iff_ne.2 c2403)
                        refine VL.un rfl rfl (ltn rfl) ?_
                        refine VL.un rfl rfl (ltn rfl) ?_
                        refine VL.va (op_pick rfl rfl (ltn rfl)) rfl ?_
                        refine VL.done ?_
                        refine VN.then ?_
                        refine VC.cond_t rfl ?_
                        refine VC.seq ?_
                        refine VC.region ?_
                        refine VL.va (op_assign rfl (ltn rfl)) rfl ?_
                        refine VL.done ?_
                        refine VN.then ?_
                        refine VC.ret ?_
                        refine VR.then ?_
                        cases h
                    · rw [if_neg c2401] at h
                      obtain rfl : b2400 = true := hb2400.symm.trans (bne_iff_ne.2 c2401)
                      refine VL.un rfl rfl (ltn rfl) ?_
                      refine VL.un rfl rfl (ltn rfl) ?_
                      refine VL.un rfl rfl (ltn rfl) ?_
                      refine VL.un rfl rfl (ltn rfl) ?_
                      refine VL.un rfl rfl (ltn rfl) ?_
                      refine VL.va (op_pick rfl rfl (ltn rfl)) rfl ?_
                      refine VL.va (op_move rfl (ltn rfl)) rfl ?_
                      refine VL.un rfl rfl (ltn rfl) ?_
                      refine VL.un rfl rfl (ltn rfl) ?_
                      refine VL.va (op_pick rfl rfl (ltn rfl)) rfl ?_
                      refine VL.done ?_
                      refine VN.then ?_
                      refine VC.cond_t rfl ?_
                      refine VC.seq ?_
                      refine VC.region ?_
                      refine VL.va (op_assign rfl (ltn rfl)) rfl ?_
                      refine VL.done ?_
                      refine VN.then ?_
                      refine VC.ret ?_
                      refine VR.then ?_
                      cases h
                  · rw [if_neg c2399] at h
                    obtain rfl := Bool.eq_false_iff.2 c2399
                    refine VL.va (op_not rfl rfl (ltn rfl)) rfl ?_
                    refine VL.va (op_pick rfl rfl (ltn rfl)) rfl ?_
                    refine VL.va (op_move rfl (ltn rfl)) rfl ?_
                    refine VL.un rfl rfl (ltn rfl) ?_
                    refine VL.un rfl rfl (ltn rfl) ?_
                    refine VL.un rfl rfl (ltn rfl) ?_
                    refine VL.un rfl rfl (ltn rfl) ?_
                    refine VL.un rfl rfl (ltn rfl) ?_
                    refine VL.va (op_pick rfl rfl (ltn rfl)) rfl ?_
                    refine VL.va (op_move rfl (ltn rfl)) rfl ?_
                    refine VL.un rfl rfl (ltn rfl) ?_
                    refine VL.un rfl rfl (ltn rfl) ?_
                    refine VL.un rfl rfl (ltn rfl) ?_
                    refine VL.un rfl rfl (ltn rfl) ?_
                    refine VL.un rfl rfl (ltn rfl) ?_
                    refine VL.va (op_pick rfl rfl (ltn rfl)) rfl ?_
                    refine VL.va (op_move rfl (ltn rfl)) rfl ?_
                    refine VL.un rfl rfl (ltn rfl) ?_
                    refine VL.un rfl rfl (ltn rfl) ?_
                    refine VL.va (op_pick rfl rfl (ltn rfl)) rfl ?_
                    refine VL.done ?_
                    refine VN.then ?_
                    refine VC.cond_t rfl ?_
                    refine VC.seq ?_
                    refine VC.region ?_
                    refine VL.va (op_assign rfl (ltn rfl)) rfl ?_
                    refine VL.done ?_
                    refine VN.then ?_
                    refine VC.ret ?_
                    refine VR.then ?_
                    cases h
                · rw [if_neg c2396] at h
                  obtain rfl : b2395 = true := hb2395.symm.trans (bne_iff_ne.2 c2396)
                  refine VL.un rfl rfl (ltn rfl) ?_
                  refine VL.un rfl rfl (ltn rfl) ?_
                  refine VL.un rfl rfl (ltn rfl) ?_
                  refine VL.un rfl rfl (ltn rfl) ?_
                  refine VL.va (op_pick rfl rfl (ltn rfl)) rfl ?_
                  refine VL.va (op_move rfl (ltn rfl)) rfl ?_
                  refine VL.un rfl rfl (ltn rfl) ?_
                  refine VL.un rfl rfl (ltn rfl) ?_
                  refine VL.un rfl rfl (ltn rfl) ?_
                  refine VL.un rfl rfl (ltn rfl) ?_
                  refine VL.un rfl rfl (ltn rfl) ?_
                  refine VL.va (op_pick rfl rfl (ltn rfl)) rfl ?_
                  refine VL.va (op_move rfl (ltn rfl)) rfl ?_
                  refine VL.un rfl rfl (ltn rfl) ?_
                  refine VL.un rfl rfl (ltn rfl) ?_
                  refine VL.un rfl rfl (ltn rfl) ?_
                  refine VL.un rfl rfl (ltn rfl) ?_
                  refine VL.un rfl rfl (ltn rfl) ?_
                  refine VL.va (op_pick rfl rfl (ltn rfl)) rfl ?_
                  refine VL.va (op_move rfl (ltn rfl)) rfl ?_
                  refine VL.un rfl rfl (ltn rfl) ?_
                  refine VL.un rfl rfl (ltn rfl) ?_
                  refine VL.va (op_pick rfl rfl (ltn rfl)) rfl ?_
                  refine VL.done ?_
                  refine VN.then ?_
                  refine VC.cond_t rfl ?_
                  refine VC.seq ?_
                  refine VC.region ?_
                  refine VL.va (op_assign rfl (ltn rfl)) rfl ?_
                  refine VL.done ?_
                  refine VN.then ?_
                  refine VC.ret ?_
                  refine VR.then ?_
                  cases h
              · rw [if_neg c2394] at h
                obtain rfl : b2393 = true := hb2393.symm.trans (bne_iff_ne.2 c2394)
                refine VL.un rfl rfl (ltn rfl) ?_
                refine VL.un rfl rfl (ltn rfl) ?_
                refine VL.va (op_pick rfl rfl (ltn rfl)) rfl ?_
                refine VL.va (op_move rfl (ltn rfl)) rfl ?_
                refine VL.un rfl rfl (ltn rfl) ?_
                refine VL.un rfl rfl (ltn rfl) ?_
                refine VL.un rfl rfl (ltn rfl) ?_
                refine VL.un rfl rfl (ltn rfl) ?_
                refine VL.va (op_pick rfl rfl (ltn rfl)) rfl ?_
                refine VL.va (op_move rfl (ltn rfl)) rfl ?_
                refine VL.un rfl rfl (ltn rfl) ?_
                refine VL.un rfl rfl (ltn rfl) ?_
                refine VL.un rfl rfl (ltn rfl) ?_
                refine VL.un rfl rfl (ltn rfl) ?_
                refine VL.un rfl rfl (ltn rfl) ?_
                refine VL.va (op_pick rfl rfl (ltn rfl)) rfl ?_
                refine VL.va (op_move rfl (ltn rfl)) rfl ?_
                refine VL.un rfl rfl (ltn rfl) ?_
                refine VL.un rfl rfl (ltn rfl) ?_
                refine VL.un rfl rfl (ltn rfl) ?_
                refine VL.un rfl rfl (ltn rfl) ?_
                refine VL.un rfl rfl (ltn rfl) ?_
                refine VL.va (op_pick rfl rfl (ltn rfl)) rfl ?_
                refine VL.va (op_move rfl (ltn rfl)) rfl ?_
                refine VL.un rfl rfl (ltn rfl) ?_
                refine VL.un rfl rfl (ltn rfl) ?_
                refine VL.va (op_pick rfl rfl (ltn rfl)) rfl ?_
                refine VL.done ?_
                refine VN.then ?_
                refine VC.cond_t rfl ?_
                refine VC.seq ?_
                refine VC.region ?_
                refine VL.va (op_assign rfl (ltn rfl)) rfl ?_
                refine VL.done ?_
                refine VN.then ?_
                refine VC.ret ?_
                refine VR.then ?_
                cases h
        · rw [if_neg c2388] at h
          obtain rfl : b2387 = true := hb2387.symm.trans (bne_iff_ne.2 c2388)
          refine VL.un rfl rfl (ltn rfl) ?_
          refine VL.un rfl rfl (ltn rfl) ?_
          refine VL.un rfl rfl (ltn rfl) ?_
          refine VL.un rfl rfl (ltn rfl) ?_
          refine VL.va (op_pick rfl rfl (ltn rfl)) rfl ?_
          refine VL.va (op_move rfl (ltn rfl)) rfl ?_
          refine VL.un rfl rfl (ltn rfl) ?_
          refine VL.un rfl rfl (ltn rfl) ?_
          refine VL.va (op_pick rfl rfl (ltn rfl)) rfl ?_
          refine VL.va (op_move rfl (ltn rfl)) rfl ?_
          refine VL.un rfl rfl (ltn rfl) ?_
          refine VL.un rfl rfl (ltn rfl) ?_
          refine VL.va (op_pick rfl rfl (ltn rfl)) rfl ?_
          refine VL.va (op_move rfl (ltn rfl)) rfl ?_
          refine VL.un rfl rfl (ltn rfl) ?_
          refine VL.un rfl rfl (ltn rfl) ?_
          refine VL.va (op_pick rfl rfl (ltn rfl)) rfl ?_
          refine VL.va (op_move rfl (ltn rfl)) rfl ?_
          refine VL.un rfl rfl (ltn rfl) ?_
          refine VL.un rfl rfl (ltn rfl) ?_
          refine VL.un rfl rfl (ltn rfl) ?_
          refine VL.un rfl rfl (ltn rfl) ?_
          refine VL.va (op_pick rfl rfl (ltn rfl)) rfl ?_
          refine VL.va (op_move rfl (ltn rfl)) rfl ?_
          refine VL.un rfl rfl (ltn rfl) ?_
          refine VL.un rfl rfl (ltn rfl) ?_
          refine VL.un rfl rfl (ltn rfl) ?_
          refine VL.un rfl rfl (ltn rfl) ?_
          refine VL.un rfl rfl (ltn rfl) ?_
          refine VL.va (op_pick rfl rfl (ltn rfl)) rfl ?_
          refine VL.va (op_move rfl (ltn rfl)) rfl ?_
          refine VL.un rfl rfl (ltn rfl) ?_
          refine VL.un rfl rfl (ltn rfl) ?_
          refine VL.un rfl rfl (ltn rfl) ?_
          refine VL.un rfl rfl (ltn rfl) ?_
          refine VL.un rfl rfl (ltn rfl) ?_
          refine VL.va (op_pick rfl rfl (ltn rfl)) rfl ?_
          refine VL.va (op_move rfl (ltn rfl)) rfl ?_
          refine VL.un rfl rfl (ltn rfl) ?_
          refine VL.un rfl rfl (ltn rfl) ?_
          refine VL.va (op_pick rfl rfl (ltn rfl)) rfl ?_
          refine VL.done ?_
          refine VN.then ?_
          refine VC.cond_t rfl ?_
          refine VC.seq ?_
          refine VC.region ?_
          refine VL.va (op_assign rfl (ltn rfl)) rfl ?_
          refine VL.done ?_
          refine VN.then ?_
          refine VC.ret ?_
          refine VR.then ?_
          cases h
      · rw [if_neg c2104] at h
        obtain rfl : b2103 = true := hb2103.symm.trans (bne_iff_ne.2 c2104)
        refine VC.cond_t rfl ?_
        refine VC.seq ?_
        refine VC.region ?_
        replace h := Option.bind_eq_some_iff.1 h
        obtain ⟨t2593, hA2594, h⟩ := h
        refine VL.sC (o_call0 FO10 (tarrylaw08_alive.ok k t2593 hA2594) rfl rfl (ltn rfl) (All_of .nil)) rfl ?_
        rintro _ _ _ ⟨rfl, rfl, rfl⟩
        refine VL.va (op_move rfl (ltn rfl)) rfl ?_
        by_cases c2595 : t2593 = true
        · rw [if_pos c2595] at h
          obtain rfl := c2595
          refine VL.va (op_move rfl (ltn rfl)) rfl ?_
          refine VL.va (op_len_own (m := r1885.length) 0 lenm Try.underlying23 rfl rfl (ltn rfl)) rfl ?_
          refine VL.letter (((r1885.length : Int) == 0)) fun b2596 hb2596 => ?_
          refine VL.va (op_cmp rfl rfl (congrArg some hb2596) (ltn rfl)) rfl ?_
          refine VL.va (op_pick rfl rfl (ltn rfl)) rfl ?_
          refine VL.va (op_move rfl (ltn rfl)) rfl ?_
          by_cases c2597 : (r1885.length : Int) = 0
          · rw [if_pos c2597] at h
            obtain rfl : b2596 = true := hb2596.symm.trans (beq_iff_eq.2 c2597)
            refine VL.va (op_move rfl (ltn rfl)) rfl ?_
            refine VL.letter ((t1921 != 0)) fun b2598 hb2598 => ?_
            refine VL.va (op_cmp rfl rfl (congrArg some hb2598) (ltn rfl)) rfl ?_
            refine VL.va (op_move rfl (ltn rfl)) rfl ?_
            by_cases c2599 : t1921 = 0
            · rw [if_pos c2599] at h
              obtain rfl : b2598 = false := hb2598.symm.trans (bne_eq_false_iff_eq.2 c2599)
              refine VL.va (op_move rfl (ltn rfl)) rfl ?_
              refine VL.letter (decide (a2 < 1)) fun b2600 hb2600 => ?_
              refine VL.va (op_cmp rfl rfl (congrArg some hb2600) (ltn rfl)) rfl ?_
              refine VL.va (op_pick rfl rfl (ltn rfl)) rfl ?_
              refine VL.va (op_move rfl (ltn rfl)) rfl ?_
              by_cases c2601 : a2 < 1
              · rw [if_pos c2601] at h
                obtain rfl : b2600 = true := hb2600.symm.trans (decide_eq_true c2601)
                refine VL.un rfl rfl (ltn rfl) ?_
                refine VL.un rfl rfl (ltn rfl) ?_
                refine VL.un rfl rfl (ltn rfl) ?_
                refine VL.un rfl rfl (ltn rfl) ?_
                refine VL.va (op_pick rfl rfl (ltn rfl)) rfl ?_
                refine VL.va (op_pick rfl rfl (ltn rfl)) rfl ?_
                refine VL.va (op_assign rfl (ltn rfl)) rfl ?_
                refine VL.done ?_
                refine VN.then ?_
                refine VC.ret ?_
                refine VR.then ?_
                obtain rfl := Option.some.inj h
                exact VR.fn (rs := [.tmp 6]) [] [] [] rfl (.tmp rfl .nil) ⟨rfl, rfl, rfl⟩ trivial rfl (by decide)
              · rw [if_neg c2601] at h
                obtain rfl : b2600 = false := hb2600.symm.trans (decide_eq_false c2601)
                refine VL.va (op_fieldAddr FI33_2 rfl (add_at _ _ _) (ltn rfl)) rfl ?_
                refine VL.va (op_load 0 1 rfl rfl TI3 rfl (by decide) (ltn rfl)) rfl ?_
                refine VL.va (op_move rfl (ltn rfl)) rfl ?_
                refine VL.letter (decide (t1917 < a2)) fun b2602 hb2602 => ?_
                refine VL.va (op_cmp rfl rfl (congrArg some hb2602) (ltn rfl)) rfl ?_
                refine VL.va (op_pick rfl rfl (ltn rfl)) rfl ?_
                refine VL.va (op_pick rfl rfl (ltn rfl)) rfl ?_
                refine VL.va (op_assign rfl (ltn rfl)) rfl ?_
                refine VL.done ?_
                refine VN.then ?_
                refine VC.ret ?_
                refine VR.then ?_
                obtain rfl := Option.some.inj h
                subst hb2602
                exact VR.fn (rs := [.tmp 6]) [] [] [] rfl (.tmp rfl .nil) ⟨rfl, rfl, rfl⟩ trivial rfl (by decide)
            · rw [if_neg c2599] at h
              obtain rfl : b2598 = true := hb2598.symm.trans (bne_iff_ne.2 c2599)
              refine VL.un rfl rfl (ltn rfl) ?_
              refine VL.un rfl rfl (ltn rfl) ?_
              refine VL.va (op_pick rfl rfl (ltn rfl)) rfl ?_
              refine VL.va (op_move rfl (ltn rfl)) rfl ?_
              refine VL.un rfl rfl (ltn rfl) ?_
              refine VL.un rfl rfl (ltn rfl) ?_
              refine VL.un rfl rfl (ltn rfl) ?_
              refine VL.un rfl rfl (ltn rfl) ?_
              refine VL.va (op_pick rfl rfl (ltn rfl)) rfl ?_
              refine VL.va (op_pick rfl rfl (ltn rfl)) rfl ?_
              refine VL.va (op_assign rfl (ltn rfl)) rfl ?_
              refine VL.done ?_
              refine VN.then ?_
              refine VC.ret ?_
              refine VR.then ?_
              obtain rfl := Option.some.inj h
              exact VR.fn (rs := [.tmp 6]) [] [] [] rfl (.tmp rfl .nil) ⟨rfl, rfl, rfl⟩ trivial rfl (by decide)
          · rw [if_neg c2597] at h
            obtain rfl : b2596 = false := hb2596.symm.trans (beq_eq_false_iff_ne.2 c2597)
            refine VL.un rfl rfl (ltn rfl) ?_
            refine VL.un rfl rfl (ltn rfl) ?_
            refine VL.un rfl rfl (ltn rfl) ?_
            refine VL.un rfl rfl (ltn rfl) ?_
            refine VL.un rfl rfl (ltn rfl) ?_
            refine VL.un rfl rfl (ltn rfl) ?_
            refine VL.un rfl rfl (ltn rfl) ?_
            refine VL.un rfl rfl (ltn rfl) ?_
            refine VL.un rfl rfl (ltn rfl) ?_
            refine VL.un rfl rfl (ltn rfl) ?_
            refine VL.un rfl rfl (ltn rfl) ?_
            refine VL.un rfl rfl (ltn rfl) ?_
            refine VL.va (op_pick rfl rfl (ltn rfl)) rfl ?_
            refine VL.va (op_assign rfl (ltn rfl)) rfl ?_
            refine VL.done ?_
            refine VN.then ?_
            refine VC.ret ?_
            refine VR.then ?_
            cases h
        · rw [if_neg c2595] at h
          obtain rfl := Bool.eq_false_iff.2 c2595
          refine VL.un rfl rfl (ltn rfl) ?_
          refine VL.un rfl rfl (ltn rfl) ?_
          refine VL.un rfl rfl (ltn rfl) ?_
          refine VL.va (op_pick rfl rfl (ltn rfl)) rfl ?_
          refine VL.va (op_move rfl (ltn rfl)) rfl ?_
          refine VL.un rfl rfl (ltn rfl) ?_
          refine VL.un rfl rfl (ltn rfl) ?_
          refine VL.un rfl rfl (ltn rfl) ?_
          refine VL.un rfl rfl (ltn rfl) ?_
          refine VL.un rfl rfl (ltn rfl) ?_
          refine VL.un rfl rfl (ltn rfl) ?_
          refine VL.un rfl rfl (ltn rfl) ?_
          refine VL.un rfl rfl (ltn rfl) ?_
          refine VL.un rfl rfl (ltn rfl) ?_
          refine VL.un rfl rfl (ltn rfl) ?_
          refine VL.un rfl rfl (ltn rfl) ?_
          refine VL.un rfl rfl (ltn rfl) ?_
          refine VL.va (op_pick rfl rfl (ltn rfl)) rfl ?_
          refine VL.va (op_assign rfl (ltn rfl)) rfl ?_
          refine VL.done ?_
          refine VN.then ?_
          refine VC.ret ?_
          refine VR.then ?_
          cases h
    · rw [if_neg c116] at h; cases h
  · rw [if_neg c115] at h; cases h

end Go.Proofs.Ytibpoajlnloloaa.PStockBack
