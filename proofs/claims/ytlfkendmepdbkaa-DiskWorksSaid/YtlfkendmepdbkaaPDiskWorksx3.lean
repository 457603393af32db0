/- Written by a program of this repo: what the program's functions do, each as a Lean function, shown of the loaded code; or a statement's row over that; no condition of its own. -/
import Derived.Test.YtlfkendmepdbkaaPDiskWorksx2
namespace Go.Proofs.Ytlfkendmepdbkaa.PDiskWorks
open Go Go.RowKit Go.Proofs.YtlfkendmepdbkaaV
set_option linter.unusedVariables false
set_option linter.unusedSimpArgs false

set_option maxHeartbeats 4000000 in
set_option maxRecDepth 100000 in
theorem disk_Crash.ok (k : Nat) (l0_0 : List ByteArray) (l0_1 : List S32) (a1 : Int) (a2 : Int) (v0_0 : Value) (v0_1 : Value) (r1 : List ByteArray) (r2 : List S32) (r3 : Int) (h : disk_Crash.f k l0_0 l0_1 a1 a2 = some (r1, r2, r3)) :
    VCalls Try.prog 7 [.agg #[v0_0, v0_1], .int .u64 a1, .int .i64 a2] [.row v0_0 1 (l0_0.map enc_str), .row v0_1 2 (l0_1.map enc32)] (fun v G own => ∃ w0 w1 : Value, v = .tuple #[.agg #[w0, w1], .int .i64 r3] ∧ G = [] ∧ own = [(w0, 9, 1, r1.map enc_str), (w1, 33, 2, r2.map enc32)]) := by
  refine VCalls.introU (fun T => T = 5) Try.func7 rfl (len rfl) fun E hC hW hD hU => ?_
  unfold disk_Crash.f at h
  refine VC.seq ?_
  refine VC.region ?_
  refine VL.sG (o_box rfl (.agg (.f 0 rfl (.f 1 rfl .nil))) (ltn rfl)) rfl ?_
  intro g927
  refine VL.sG (o_alloc Z25 ZL25 (ltn rfl)) rfl ?_
  intro g928
  refine VL.va (op_assign rfl (ltn rfl)) rfl ?_
  refine VL.done ?_
  refine VN.then ?_
  refine VC.seq ?_
  refine VC.seq ?_
  refine VC.region ?_
  refine VL.va (op_load 1 2 rfl rfl TI25 rfl (fun h => absurd h (by decide)) (ltn rfl)) rfl ?_
  replace h := Option.bind_eq_some_iff.1 h
  obtain ⟨t940, hA941, h⟩ := h
  refine VL.sC (o_call0 FO16 (disk_Right.ok k l0_0 l0_1 v0_0 v0_1 t940 hA941) rfl rfl (ltn rfl) (All_of (.cons (List.mem_of_getElem? (i := 0) rfl) (.cons (List.mem_of_getElem? (i := 1) rfl) .nil)))) rfl ?_
  rintro _ _ _ ⟨rfl, rfl, rfl⟩
  by_cases c942 : t940 = true
  · rw [if_pos c942] at h
    obtain rfl := c942
    refine VL.va (op_not rfl rfl (ltn rfl)) rfl ?_
    refine VL.done ?_
    refine VN.then ?_
    refine VC.cond_f rfl ?_
    refine VC.skip ?_
    refine VN.then ?_
    refine VC.seq ?_
    refine VC.region ?_
    refine VL.va (op_fieldAddr FI25_0 rfl (add_at _ _ _) (ltn rfl)) rfl ?_
    refine VL.va (op_load 1 1 rfl rfl TI22 rfl (by decide) (ltn rfl)) rfl ?_
    replace h := Option.bind_eq_some_iff.1 h
    obtain ⟨r943, hA944, h⟩ := h
    refine VL.sC (o_call_b0 FO19 (slices_Clone_string_string.ok l0_0 v0_0 r943 hA944) rfl rfl (ltn rfl) (All_of (.cons (.inl (List.mem_of_getElem? (i := 0) rfl)) .nil)) (by rintro _ _ _ ⟨_, rfl, rfl, rfl⟩; rfl)) rfl ?_
    rintro v946 _ _ ⟨_, rfl, rfl, rfl⟩
    refine VL.va (op_assign rfl (ltn rfl)) rfl ?_
    refine VL.done ?_
    refine VN.then ?_
    refine VC.seq ?_
    refine VC.region ?_
    refine VL.va (op_assign rfl (ltn rfl)) rfl ?_
    refine VL.done ?_
    refine VN.then ?_
    refine VC.join3 (fun (v1350 : Value) (l1351 : List ByteArray) (i1352 : Int) => ⟨77, [(2, .int .i64 a2), (3, .pointer (some ⟨g927, 0, none⟩)), (6, .pointer (some ⟨g928, 0, none⟩)), (7, .int .i64 0), (8, v1350), (9, .int .i64 i1352)], [.row v0_0 1 (l0_0.map enc_str), .row v0_1 2 (l0_1.map enc32)], [(g928, 25, [.slice none 0 0, .slice none 0 0]), (g927, 25, [v0_0, v0_1])], [(v1350, 9, 1, l1351.map enc_str)]⟩) (fun (v1350 : Value) (l1351 : List ByteArray) (i1352 : Int) => disk_Crash.j2 k a2 l0_1 l1351 i1352 = some (r1, r2, r3)) ?_ ?_
    · refine VC.seq ?_
      refine VC.region ?_
      refine VL.va (op_fieldAddr FI25_1 rfl (add_at _ _ _) (ltn rfl)) rfl ?_
      refine VL.va (op_load 1 1 rfl rfl TI23 rfl (by decide) (ltn rfl)) rfl ?_
      refine VL.va (op_len (m := l0_1.length) 1 lenm Try.underlying23 rfl rfl (ltn rfl)) rfl ?_
      refine VL.va (op_move rfl (ltn rfl)) rfl ?_
      refine VL.done ?_
      refine VN.then ?_
      refine VC.block ?_
      refine VC.loop4 (fun (v1287 : Value) (l1288 : List ByteArray) (i1289 : Int) (i1290 : Int) => ⟨77, [(1, .int .u64 a1), (2, .int .i64 a2), (3, .pointer (some ⟨g927, 0, none⟩)), (6, .pointer (some ⟨g928, 0, none⟩)), (7, .int .i64 0), (8, v1287), (9, .int .i64 i1289), (22, v0_1), (23, .int .i64 (l0_1.length : Int)), (24, .int .i64 i1290)], [.row v0_1 2 (l0_1.map enc32), .row v0_0 1 (l0_0.map enc_str)], [(g928, 25, [.slice none 0 0, .slice none 0 0]), (g927, 25, [v0_0, v0_1])], [(v1287, 9, 1, l1288.map enc_str)]⟩) (fun (ml3 : Nat) (v1287 : Value) (l1288 : List ByteArray) (i1289 : Int) (i1290 : Int) => disk_Crash.l3 k a1 a2 l0_1 ml3 l1288 i1289 i1290 = some (r1, r2, r3)) k v946 r943 (-1) 0 [0, 1] [0] h ⟨rfl, ⟨rfl, rfl, rfl, rfl, rfl, rfl, rfl, rfl, rfl, rfl, trivial⟩, ⟨⟨1, rfl⟩, ⟨0, rfl⟩, trivial⟩, rfl, by decide, rfl, by decide⟩ (by intros; simp [disk_Crash.l3]) ?_
      clear h
      intro ml3 ihl3 v1287 l1288 i1289 i1290 h
      simp only [disk_Crash.l3] at h
      refine VC.seq ?_
      refine VC.region ?_
      refine VL.letter (decide (i1290 < (l0_1.length : Int))) fun b1320 hb1320 => ?_
      refine VL.va (op_cmp rfl rfl (congrArg some hb1320) (ltn rfl)) rfl ?_
      refine VL.done ?_
      refine VN.then ?_
      refine VC.seq ?_
      by_cases c1322 : i1290 < (l0_1.length : Int)
      · rw [if_pos c1322] at h
        obtain rfl : b1320 = true := hb1320.symm.trans (decide_eq_true c1322)
        refine VC.cond_t rfl ?_
        refine VC.skip ?_
        refine VN.then ?_
        refine VC.seq ?_
        refine VC.block ?_
        refine VC.seq ?_
        refine VC.region ?_
        refine VL.va (op_move rfl (ltn rfl)) rfl ?_
        by_cases c1336 : 0 ≤ i1290
        · rw [if_pos c1336] at h
          replace h := Option.bind_eq_some_iff.1 h
          obtain ⟨x1337, hx1337, h⟩ := h
          refine VL.open (m := l0_1.length) 0 lenm rfl (pos_get hx1337) ?_
          rintro ad1338 n1339 rfl
          refine VL.va (op_indexAddr Try.underlying23 TI33 rfl rfl c1336 (lt_get c1336 hx1337) rfl (ltn rfl)) rfl ?_
          refine VL.va (op_load_row (sz := 2) (o := 0) 0 i1290.toNat 2 rfl rfl (get_map hx1337) TI33 rfl (fun h => absurd h (by decide)) (ltn rfl)) rfl ?_
          refine VL.sG (o_alloc Z33 ZL33 (ltn rfl)) rfl ?_
          intro g1340
          refine VL.va (op_assign rfl (ltn rfl)) rfl ?_
          refine VL.step1 (o_store 0 2 rfl rfl rfl TI33 (.agg (.of rfl)) rfl (len rfl)) rfl ?_
          refine VL.done ?_
          refine VN.then ?_
          refine VC.seq ?_
          refine VC.region ?_
          refine VL.va (op_move rfl (ltn rfl)) rfl ?_
          refine VL.va (op_move rfl (ltn rfl)) rfl ?_
          refine VL.va (op_shr rfl rfl c1336 rfl (ltn rfl)) rfl ?_
          refine VL.va (op_bits rfl rfl rfl (ltn rfl)) rfl ?_
          refine VL.letter (((Go.bits .and .u64 (a1.fdiv (2 ^ min i1290.toNat IntKind.u64.bits)) 1) == 1)) fun b1341 hb1341 => ?_
          refine VL.va (op_cmp rfl rfl (congrArg some hb1341) (ltn rfl)) rfl ?_
          refine VL.done ?_
          refine VN.then ?_
          by_cases c1342 : (Go.bits .and .u64 (a1.fdiv (2 ^ min i1290.toNat IntKind.u64.bits)) 1) = 1
          · rw [if_pos c1342] at h
            obtain rfl : b1341 = true := hb1341.symm.trans (beq_iff_eq.2 c1342)
            refine VC.cond_t rfl ?_
            refine VC.region ?_
            refine VL.va (op_move rfl (ltn rfl)) rfl ?_
            refine VL.va (op_fieldAddr FI33_0 rfl (add_at _ _ _) (ltn rfl)) rfl ?_
            refine VL.va (op_load 0 1 rfl rfl TI3 rfl (by decide) (ltn rfl)) rfl ?_
            refine VL.va (op_fieldAddr FI33_1 rfl (add_at _ _ _) (ltn rfl)) rfl ?_
            refine VL.va (op_load 0 1 rfl rfl TI9 rfl (by decide) (ltn rfl)) rfl ?_
            by_cases c1343 : 0 ≤ x1337.f0
            · rw [if_pos c1343] at h
              replace h := Option.bind_eq_some_iff.1 h
              obtain ⟨x1344, hx1344, h⟩ := h
              refine VL.openR (m := l1288.length) 0 lenm rfl (pos_get hx1344) ?_
              rintro g1345 n1346 rfl
              refine VL.va (op_indexAddr Try.underlying22 TI9 rfl rfl c1343 (lt_get c1343 hx1344) (add_zero_at _ _) (ltn rfl)) rfl ?_
              refine VL.step1 (o_store_own (sz := 1) (o := 0) (es3 := List.map enc_str (l1288.set x1337.f0.toNat x1337.f1)) 0 x1337.f0.toNat 1 lenm (setm rfl) rfl rfl rfl (get_map hx1344) TI9 (.c rfl) rfl (len rfl)) rfl ?_
              refine VL.done ?_
              refine VN.block ?_
              refine VN.then ?_
              refine VC.region ?_
              refine VL.va (op_ari64 rfl rfl rfl (ltn rfl)) rfl ?_
              refine VL.va (op_move rfl (ltn rfl)) rfl ?_
              refine VL.done ?_
              refine VN.again [1, 2] [0] (ihl3 (.slice (some ⟨g1345, 0, none⟩) l1288.length n1346) (l1288.set x1337.f0.toNat x1337.f1) i1289 (wrap64 (i1290 + 1)) h) ⟨rfl, ⟨rfl, rfl, rfl, rfl, rfl, rfl, rfl, rfl, rfl, rfl, trivial⟩, ⟨⟨0, rfl⟩, ⟨1, rfl⟩, trivial⟩, rfl, by decide, rfl, by decide⟩
            · rw [if_neg c1343] at h; cases h
          · rw [if_neg c1342] at h
            obtain rfl : b1341 = false := hb1341.symm.trans (beq_eq_false_iff_ne.2 c1342)
            refine VC.cond_f rfl ?_
            refine VC.region ?_
            refine VL.va (op_move rfl (ltn rfl)) rfl ?_
            refine VL.va (op_assign rfl (ltn rfl)) rfl ?_
            refine VL.done ?_
            refine VN.block ?_
            refine VN.then ?_
            refine VC.region ?_
            refine VL.va (op_ari64 rfl rfl rfl (ltn rfl)) rfl ?_
            refine VL.va (op_move rfl (ltn rfl)) rfl ?_
            refine VL.done ?_
            refine VN.again [1, 2] [0] (ihl3 v1287 l1288 i1290 (wrap64 (i1290 + 1)) h) ⟨rfl, ⟨rfl, rfl, rfl, rfl, rfl, rfl, rfl, rfl, rfl, rfl, trivial⟩, ⟨⟨0, rfl⟩, ⟨1, rfl⟩, trivial⟩, rfl, by decide, rfl, by decide⟩
        · rw [if_neg c1336] at h; cases h
      · rw [if_neg c1322] at h
        obtain rfl : b1320 = false := hb1320.symm.trans (decide_eq_false c1322)
        refine VC.cond_f rfl ?_
        refine VC.exit ?_
        refine VX.then ?_
        refine VX.then ?_
        refine VX.hit ?_
        refine VN.meet3 v1287 l1288 i1289 [0, 1] [0] h ⟨rfl, ⟨rfl, rfl, rfl, rfl, rfl, rfl, trivial⟩, ⟨⟨1, rfl⟩, ⟨0, rfl⟩, trivial⟩, rfl, by decide, rfl, by decide⟩
    clear h
    intro v1350 l1351 i1352 h
    unfold disk_Crash.j2 at h
    refine VC.seq ?_
    refine VC.seq ?_
    refine VC.region ?_
    refine VL.va (op_move rfl (ltn rfl)) rfl ?_
    refine VL.letter (decide (i1352 ≥ 0)) fun b1388 hb1388 => ?_
    refine VL.va (op_cmp rfl rfl (congrArg some hb1388) (ltn rfl)) rfl ?_
    refine VL.va (op_move rfl (ltn rfl)) rfl ?_
    by_cases c1389 : i1352 ≥ 0
    · rw [if_pos c1389] at h
      obtain rfl : b1388 = true := hb1388.symm.trans (decide_eq_true c1389)
      refine VL.va (op_move rfl (ltn rfl)) rfl ?_
      refine VL.letter (decide (a2 ≥ 1)) fun b1390 hb1390 => ?_
      refine VL.va (op_cmp rfl rfl (congrArg some hb1390) (ltn rfl)) rfl ?_
      refine VL.va (op_pick rfl rfl (ltn rfl)) rfl ?_
      refine VL.va (op_move rfl (ltn rfl)) rfl ?_
      by_cases c1391 : a2 ≥ 1
      · rw [if_pos c1391] at h
        obtain rfl : b1390 = true := hb1390.symm.trans (decide_eq_true c1391)
        refine VL.va (op_move rfl (ltn rfl)) rfl ?_
        refine VL.letter (decide (a2 < 64)) fun b1392 hb1392 => ?_
        refine VL.va (op_cmp rfl rfl (congrArg some hb1392) (ltn rfl)) rfl ?_
        refine VL.va (op_pick rfl rfl (ltn rfl)) rfl ?_
        refine VL.done ?_
        refine VN.then ?_
        by_cases c1393 : a2 < 64
        · rw [if_pos c1393] at h
          obtain rfl : b1392 = true := hb1392.symm.trans (decide_eq_true c1393)
          refine VC.cond_t rfl ?_
          refine VC.seq ?_
          refine VC.region ?_
          refine VL.va (op_fieldAddr FI25_1 rfl (add_at _ _ _) (ltn rfl)) rfl ?_
          refine VL.va (op_load 1 1 rfl rfl TI23 rfl (by decide) (ltn rfl)) rfl ?_
          refine VL.va (op_move rfl (ltn rfl)) rfl ?_
          by_cases c1394 : 0 ≤ i1352
          · rw [if_pos c1394] at h
            replace h := Option.bind_eq_some_iff.1 h
            obtain ⟨x1395, hx1395, h⟩ := h
            refine VL.open (m := l0_1.length) 1 lenm rfl (pos_get hx1395) ?_
            rintro ad1396 n1397 rfl
            refine VL.va (op_indexAddr Try.underlying23 TI33 rfl rfl c1394 (lt_get c1394 hx1395) rfl (ltn rfl)) rfl ?_
            refine VL.va (op_load_row (sz := 2) (o := 0) 1 i1352.toNat 2 rfl rfl (get_map hx1395) TI33 rfl (fun h => absurd h (by decide)) (ltn rfl)) rfl ?_
            refine VL.sG (o_alloc Z33 ZL33 (ltn rfl)) rfl ?_
            intro g1398
            refine VL.step1 (o_store 0 2 rfl rfl rfl TI33 (.agg (.of rfl)) rfl (len rfl)) rfl ?_
            refine VL.done ?_
            refine VN.then ?_
            refine VC.seq ?_
            refine VC.region ?_
            refine VL.va (op_move rfl (ltn rfl)) rfl ?_
            refine VL.va (op_fieldAddr FI33_0 rfl (add_at _ _ _) (ltn rfl)) rfl ?_
            refine VL.va (op_load 0 1 rfl rfl TI3 rfl (by decide) (ltn rfl)) rfl ?_
            by_cases c1399 : 0 ≤ x1395.f0
            · rw [if_pos c1399] at h
              replace h := Option.bind_eq_some_iff.1 h
              obtain ⟨x1400, hx1400, h⟩ := h
              refine VL.openR (m := l1351.length) 0 lenm rfl (pos_get hx1400) ?_
              rintro g1401 n1402 rfl
              refine VL.va (op_indexAddr Try.underlying22 TI9 rfl rfl c1399 (lt_get c1399 hx1400) (add_zero_at _ _) (ltn rfl)) rfl ?_
              refine VL.va (op_load_own (sz := 1) (o := 0) 0 x1395.f0.toNat 1 rfl rfl (get_map hx1400) TI9 rfl (by decide) (ltn rfl)) rfl ?_
              refine o_strBytesB Try.underlying9 Try.underlying48 Try.underlying5 (by rw [hU]) rfl (ltn rfl) rfl fun g1403 n1404 z1405 => ?_
              refine VL.va (op_assign rfl (ltn rfl)) rfl ?_
              refine VL.done ?_
              refine VN.then ?_
              refine VC.seq ?_
              refine VC.region ?_
              refine VL.va (op_move rfl (ltn rfl)) rfl ?_
              refine VL.va (op_fieldAddr FI33_1 rfl (add_at _ _ _) (ltn rfl)) rfl ?_
              refine VL.va (op_load 1 1 rfl rfl TI9 rfl (by decide) (ltn rfl)) rfl ?_
              refine VL.va (op_move rfl (ltn rfl)) rfl ?_
              by_cases c1406 : 0 ≤ a2
              · rw [if_pos c1406] at h
                by_cases c1407 : a2 ≤ (x1395.f1.size : Int)
                · rw [if_pos c1407] at h
                  refine VL.va (op_sliceS 0 a2.toNat Try.underlying9 rfl ⟨rfl, ⟨_, _, rfl, c1406, rfl⟩, by omega, by omega⟩ rfl (ltn rfl)) rfl ?_
                  by_cases c1408 : (byI x1400).length = x1400.size
                  · rw [if_pos c1408] at h
                    refine VL.step1 (o_copyS 0 Try.underlying48 TI5 rfl rfl rfl c1408 rfl (ltn rfl)) rfl ?_
                    refine VL.done ?_
                    refine VN.then ?_
                    refine VC.region ?_
                    refine VL.va (op_move rfl (ltn rfl)) rfl ?_
                    refine VL.va (op_fieldAddr FI33_0 rfl (add_at _ _ _) (ltn rfl)) rfl ?_
                    refine VL.va (op_load 1 1 rfl rfl TI3 rfl (by decide) (ltn rfl)) rfl ?_
                    refine VL.va (op_move rfl (ltn rfl)) rfl ?_
                    by_cases c1409 : ((byI (x1395.f1.extract 0 a2.toNat)).take (min (x1395.f1.extract 0 a2.toNat).size x1400.size) ++ (byI x1400).drop (min (x1395.f1.extract 0 a2.toNat).size x1400.size)).length = x1400.size
                    · rw [if_pos c1409] at h
                      refine VL.va (op_bytesStrB 0 Try.underlying48 Try.underlying9 Try.underlying5 rfl rfl c1409 (ltn rfl)) rfl ?_
                      replace h := Option.bind_eq_some_iff.1 h
                      obtain ⟨x1410, hx1410, h⟩ := h
                      refine VL.va (op_indexAddr Try.underlying22 TI9 rfl rfl c1399 (lt_get c1399 hx1410) (add_zero_at _ _) (ltn rfl)) rfl ?_
                      refine VL.step1 (o_store_own (sz := 1) (o := 0) (es3 := List.map enc_str (l1351.set x1395.f0.toNat (strOfNums ((byI (x1395.f1.extract 0 a2.toNat)).take (min (x1395.f1.extract 0 a2.toNat).size x1400.size) ++ (byI x1400).drop (min (x1395.f1.extract 0 a2.toNat).size x1400.size))))) 0 x1395.f0.toNat 1 lenm (setm rfl) rfl rfl rfl (get_map hx1410) TI9 (.c rfl) rfl (len rfl)) rfl ?_
                      refine VL.done ?_
                      refine VN.then ?_
                      refine VC.seq ?_
                      refine VC.region ?_
                      refine VL.va (op_move rfl (ltn rfl)) rfl ?_
                      refine VL.va (op_build (vals := [(0, (.slice (some ⟨g1401, 0, none⟩) l1351.length n1402))]) (vcs := [(0, [(.slice (some ⟨g1401, 0, none⟩) l1351.length n1402)])]) (cells := [(.slice (some ⟨g1401, 0, none⟩) l1351.length n1402), .slice none 0 0]) SI25 rfl (.cons ⟨rfl, (.r 0 rfl)⟩ .nil) (by kernel_rfl) (ltn rfl)) rfl ?_
                      refine VL.step1 (o_store 2 2 rfl rfl rfl TI25 (.agg (.r 0 rfl (.c rfl .nil))) rfl (len rfl)) rfl ?_
                      refine VL.va (op_assign rfl (ltn rfl)) rfl ?_
                      refine VL.done ?_
                      refine VN.then ?_
                      refine VC.ret ?_
                      simp only [Option.some.injEq, Prod.mk.injEq] at h
                      obtain ⟨rfl, rfl, rfl⟩ := h
                      refine VR.nilRow' 33 2 ?_
                      exact VR.fn (rs := [.cell 6 25, .tmp 7]) [] [((.slice (some ⟨g1401, 0, none⟩) l1351.length n1402), 9, 1, (l1351.set x1395.f0.toNat (strOfNums ((byI (x1395.f1.extract 0 a2.toNat)).take (min (x1395.f1.extract 0 a2.toNat).size x1400.size) ++ (byI x1400).drop (min (x1395.f1.extract 0 a2.toNat).size x1400.size)))).map enc_str), ((.slice none 0 0), 33, 2, ([] : List S32).map enc32)] [1, 0] rfl (.cell 2 rfl rfl TI25 (fun h => absurd h (by decide)) (.tmp rfl .nil)) ⟨(.slice (some ⟨g1401, 0, none⟩) l1351.length n1402), (.slice none 0 0), rfl, rfl, rfl⟩ trivial rfl (by decide)
                    · rw [if_neg c1409] at h; cases h
                  · rw [if_neg c1408] at h; cases h
                · rw [if_neg c1407] at h; cases h
              · rw [if_neg c1406] at h; cases h
            · rw [if_neg c1399] at h; cases h
          · rw [if_neg c1394] at h; cases h
        · rw [if_neg c1393] at h
          obtain rfl : b1392 = false := hb1392.symm.trans (decide_eq_false c1393)
          refine VC.cond_f rfl ?_
          refine VC.skip ?_
          refine VN.then ?_
          refine VC.seq ?_
          refine VC.region ?_
          refine VL.va (op_move rfl (ltn rfl)) rfl ?_
          refine VL.va (op_build (vals := [(0, v1350)]) (vcs := [(0, [v1350])]) (cells := [v1350, .slice none 0 0]) SI25 rfl (.cons ⟨rfl, (.r 0 rfl)⟩ .nil) (by kernel_rfl) (ltn rfl)) rfl ?_
          refine VL.step1 (o_store 0 2 rfl rfl rfl TI25 (.agg (.r 0 rfl (.c rfl .nil))) rfl (len rfl)) rfl ?_
          refine VL.va (op_assign rfl (ltn rfl)) rfl ?_
          refine VL.done ?_
          refine VN.then ?_
          refine VC.ret ?_
          simp only [Option.some.injEq, Prod.mk.injEq] at h
          obtain ⟨rfl, rfl, rfl⟩ := h
          refine VR.nilRow' 33 2 ?_
          exact VR.fn (rs := [.cell 6 25, .tmp 7]) [] [(v1350, 9, 1, l1351.map enc_str), ((.slice none 0 0), 33, 2, ([] : List S32).map enc32)] [1, 0] rfl (.cell 0 rfl rfl TI25 (fun h => absurd h (by decide)) (.tmp rfl .nil)) ⟨v1350, (.slice none 0 0), rfl, rfl, rfl⟩ trivial rfl (by decide)
      · rw [if_neg c1391] at h
        obtain rfl : b1390 = false := hb1390.symm.trans (decide_eq_false c1391)
        refine VL.un rfl rfl (ltn rfl) ?_
        refine VL.un rfl rfl (ltn rfl) ?_
        refine VL.va (op_pick rfl rfl (ltn rfl)) rfl ?_
        refine VL.done ?_
        refine VN.then ?_
        refine VC.cond_f rfl ?_
        refine VC.skip ?_
        refine VN.then ?_
        refine VC.seq ?_
        refine VC.region ?_
        refine VL.va (op_move rfl (ltn rfl)) rfl ?_
        refine VL.va (op_build (vals := [(0, v1350)]) (vcs := [(0, [v1350])]) (cells := [v1350, .slice none 0 0]) SI25 rfl (.cons ⟨rfl, (.r 0 rfl)⟩ .nil) (by kernel_rfl) (ltn rfl)) rfl ?_
        refine VL.step1 (o_store 0 2 rfl rfl rfl TI25 (.agg (.r 0 rfl (.c rfl .nil))) rfl (len rfl)) rfl ?_
        refine VL.va (op_assign rfl (ltn rfl)) rfl ?_
        refine VL.done ?_
        refine VN.then ?_
        refine VC.ret ?_
        simp only [Option.some.injEq, Prod.mk.injEq] at h
        obtain ⟨rfl, rfl, rfl⟩ := h
        refine VR.nilRow' 33 2 ?_
        exact VR.fn (rs := [.cell 6 25, .tmp 7]) [] [(v1350, 9, 1, l1351.map enc_str), ((.slice none 0 0), 33, 2, ([] : List S32).map enc32)] [1, 0] rfl (.cell 0 rfl rfl TI25 (fun h => absurd h (by decide)) (.tmp rfl .nil)) ⟨v1350, (.slice none 0 0), rfl, rfl, rfl⟩ trivial rfl (by decide)
    · rw [if_neg c1389] at h
      obtain rfl : b1388 = false := hb1388.symm.trans (decide_eq_false c1389)
      refine VL.un rfl rfl (ltn rfl) ?_
      refine VL.un rfl rfl (ltn rfl) ?_
      refine VL.va (op_pick rfl rfl (ltn rfl)) rfl ?_
      refine VL.va (op_move rfl (ltn rfl)) rfl ?_
      refine VL.un rfl rfl (ltn rfl) ?_
      refine VL.un rfl rfl (ltn rfl) ?_
      refine VL.va (op_pick rfl rfl (ltn rfl)) rfl ?_
      refine VL.done ?_
      refine VN.then ?_
      refine VC.cond_f rfl ?_
      refine VC.skip ?_
      refine VN.then ?_
      refine VC.seq ?_
      refine VC.region ?_
      refine VL.va (op_move rfl (ltn rfl)) rfl ?_
      refine VL.va (op_build (vals := [(0, v1350)]) (vcs := [(0, [v1350])]) (cells := [v1350, .slice none 0 0]) SI25 rfl (.cons ⟨rfl, (.r 0 rfl)⟩ .nil) (by kernel_rfl) (ltn rfl)) rfl ?_
      refine VL.step1 (o_store 0 2 rfl rfl rfl TI25 (.agg (.r 0 rfl (.c rfl .nil))) rfl (len rfl)) rfl ?_
      refine VL.va (op_assign rfl (ltn rfl)) rfl ?_
      refine VL.done ?_
      refine VN.then ?_
      refine VC.ret ?_
      simp only [Option.some.injEq, Prod.mk.injEq] at h
      obtain ⟨rfl, rfl, rfl⟩ := h
      refine VR.nilRow' 33 2 ?_
      exact VR.fn (rs := [.cell 6 25, .tmp 7]) [] [(v1350, 9, 1, l1351.map enc_str), ((.slice none 0 0), 33, 2, ([] : List S32).map enc32)] [1, 0] rfl (.cell 0 rfl rfl TI25 (fun h => absurd h (by decide)) (.tmp rfl .nil)) ⟨v1350, (.slice none 0 0), rfl, rfl, rfl⟩ trivial rfl (by decide)
  · rw [if_neg c942] at h
    obtain rfl := Bool.eq_false_iff.2 c942
    refine VL.va (op_not rfl rfl (ltn rfl)) rfl ?_
    refine VL.done ?_
    refine VN.then ?_
    refine VC.cond_t rfl ?_
    refine VC.seq ?_
    refine VC.region ?_
    refine VL.va (op_build (vals := []) (vcs := []) (cells := [.slice none 0 0, .slice none 0 0]) SI25 rfl .nil (by kernel_rfl) (ltn rfl)) rfl ?_
    refine VL.step1 (o_store 0 2 rfl rfl rfl TI25 (.agg (.of rfl)) rfl (len rfl)) rfl ?_
    refine VL.va (op_assign rfl (ltn rfl)) rfl ?_
    refine VL.done ?_
    refine VN.then ?_
    refine VC.ret ?_
    refine VR.then ?_
    simp only [Option.some.injEq, Prod.mk.injEq] at h
    obtain ⟨rfl, rfl, rfl⟩ := h
    refine VR.nilRow' 9 1 ?_
    refine VR.nilRow' 33 2 ?_
    exact VR.fn (rs := [.cell 6 25, .tmp 7]) [] [((.slice none 0 0), 9, 1, ([] : List ByteArray).map enc_str), ((.slice none 0 0), 33, 2, ([] : List S32).map enc32)] [1, 0] rfl (.cell 0 rfl rfl TI25 (fun h => absurd h (by decide)) (.tmp rfl .nil)) ⟨(.slice none 0 0), (.slice none 0 0), rfl, rfl, rfl⟩ trivial rfl (by decide)
set_option maxHeartbeats 4000000 in
set_option maxRecDepth 100000 in
theorem disk_Flush.ok (k : Nat) (l0_0 : List ByteArray) (l0_1 : List S32) (v0_0 : Value) (v0_1 : Value) (r1 : List ByteArray) (r2 : List S32) (r3 : Int) (h : disk_Flush.f k l0_0 l0_1 = some (r1, r2, r3)) :
    VCalls Try.prog 12 [.agg #[v0_0, v0_1]] [.row v0_0 1 (l0_0.map enc_str), .row v0_1 2 (l0_1.map enc32)] (fun v G own => ∃ w0 w1 : Value, v = .tuple #[.agg #[w0, w1], .int .i64 r3] ∧ G = [] ∧ own = [(w0, 9, 1, r1.map enc_str), (w1, 33, 2, r2.map enc32)]) := by
  refine VCalls.intro Try.func12 rfl (len rfl) fun E hC hW hD hU => ?_
  unfold disk_Flush.f at h
  refine VC.seq ?_
  refine VC.region ?_
  refine VL.sG (o_box rfl (.agg (.f 0 rfl (.f 1 rfl .nil))) (ltn rfl)) rfl ?_
  intro g923
  refine VL.sG (o_alloc Z25 ZL25 (ltn rfl)) rfl ?_
  intro g924
  refine VL.va (op_assign rfl (ltn rfl)) rfl ?_
  refine VL.done ?_
  refine VN.then ?_
  refine VC.seq ?_
  refine VC.region ?_
  refine VL.va (op_load 1 2 rfl rfl TI25 rfl (fun h => absurd h (by decide)) (ltn rfl)) rfl ?_
  replace h := Option.bind_eq_some_iff.1 h
  obtain ⟨⟨r1419, r1420, t1421⟩, hA1422, h⟩ := h
  dsimp only at h
  refine VL.sC (o_call0 FO7 (disk_Crash.ok k l0_0 l0_1 18446744073709551615 0 v0_0 v0_1 r1419 r1420 t1421 hA1422) rfl rfl (ltn rfl) (All_of (.cons (List.mem_of_getElem? (i := 0) rfl) (.cons (List.mem_of_getElem? (i := 1) rfl) .nil)))) rfl ?_
  rintro _ _ _ ⟨v1424, v1426, rfl, rfl, rfl⟩
  refine VL.va (op_extract rfl rfl (ltn rfl)) rfl ?_
  refine VL.va (op_extract rfl rfl (ltn rfl)) rfl ?_
  refine VL.step1 (o_store 0 2 rfl rfl rfl TI25 (.agg (.r 0 rfl (.r 1 rfl .nil))) rfl (len rfl)) rfl ?_
  refine VL.va (op_assign rfl (ltn rfl)) rfl ?_
  refine VL.done ?_
  refine VN.then ?_
  refine VC.ret ?_
  simp only [Option.some.injEq, Prod.mk.injEq] at h
  obtain ⟨rfl, rfl, rfl⟩ := h
  exact VR.fn (rs := [.cell 2 25, .tmp 3]) [] [(v1424, 9, 1, r1419.map enc_str), (v1426, 33, 2, r1420.map enc32)] [0, 1] rfl (.cell 0 rfl rfl TI25 (fun h => absurd h (by decide)) (.tmp rfl .nil)) ⟨v1424, v1426, rfl, rfl, rfl⟩ trivial rfl (by decide)
set_option maxHeartbeats 4000000 in
set_option maxRecDepth 100000 in
theorem tarryref03_Like.ok (k : Nat) (l0_0 : List ByteArray) (l0_1 : List S32) (l1_0 : List ByteArray) (l1_1 : List S32) (v0_0 : Value) (v0_1 : Value) (v1_0 : Value) (v1_1 : Value) (r1 : Bool) (h : tarryref03_Like.f k l0_0 l0_1 l1_0 l1_1 = some r1) :
    VCalls Try.prog 13 [.agg #[v0_0, v0_1], .agg #[v1_0, v1_1]] [.row v0_0 1 (l0_0.map enc_str), .row v0_1 2 (l0_1.map enc32), .row v1_0 1 (l1_0.map enc_str), .row v1_1 2 (l1_1.map enc32)] (fun v G own => v = .bool r1 ∧ G = [] ∧ own = []) := by
  refine VCalls.intro Try.func13 rfl (len rfl) fun E hC hW hD hU => ?_
  unfold tarryref03_Like.f at h
  refine VC.seq ?_
  refine VC.region ?_
  refine VL.sG (o_box rfl (.agg (.f 0 rfl (.f 1 rfl .nil))) (ltn rfl)) rfl ?_
  intro g1457
  refine VL.sG (o_box rfl (.agg (.f 2 rfl (.f 3 rfl .nil))) (ltn rfl)) rfl ?_
  intro g1458
  refine VL.va (op_assign rfl (ltn rfl)) rfl ?_
  refine VL.done ?_
  refine VN.then ?_
  refine VC.seq ?_
  refine VC.seq ?_
  refine VC.region ?_
  refine VL.va (op_fieldAddr FI25_0 rfl (add_at _ _ _) (ltn rfl)) rfl ?_
  refine VL.va (op_load 1 1 rfl rfl TI22 rfl (by decide) (ltn rfl)) rfl ?_
  refine VL.va (op_len (m := l0_0.length) 0 lenm Try.underlying22 rfl rfl (ltn rfl)) rfl ?_
  refine VL.va (op_fieldAddr FI25_0 rfl (add_at _ _ _) (ltn rfl)) rfl ?_
  refine VL.va (op_load 0 1 rfl rfl TI22 rfl (by decide) (ltn rfl)) rfl ?_
  refine VL.va (op_len (m := l1_0.length) 2 lenm Try.underlying22 rfl rfl (ltn rfl)) rfl ?_
  refine VL.letter (((l0_0.length : Int) != (l1_0.length : Int))) fun b1469 hb1469 => ?_
  refine VL.va (op_cmp rfl rfl (congrArg some hb1469) (ltn rfl)) rfl ?_
  refine VL.va (op_move rfl (ltn rfl)) rfl ?_
  by_cases c1470 : (l0_0.length : Int) = (l1_0.length : Int)
  · rw [if_pos c1470] at h
    obtain rfl : b1469 = false := hb1469.symm.trans (bne_eq_false_iff_eq.2 c1470)
    refine VL.va (op_fieldAddr FI25_1 rfl (add_at _ _ _) (ltn rfl)) rfl ?_
    refine VL.va (op_load 1 1 rfl rfl TI23 rfl (by decide) (ltn rfl)) rfl ?_
    refine VL.va (op_len (m := l0_1.length) 1 lenm Try.underlying23 rfl rfl (ltn rfl)) rfl ?_
    refine VL.va (op_fieldAddr FI25_1 rfl (add_at _ _ _) (ltn rfl)) rfl ?_
    refine VL.va (op_load 0 1 rfl rfl TI23 rfl (by decide) (ltn rfl)) rfl ?_
    refine VL.va (op_len (m := l1_1.length) 3 lenm Try.underlying23 rfl rfl (ltn rfl)) rfl ?_
    refine VL.letter (((l0_1.length : Int) != (l1_1.length : Int))) fun b1471 hb1471 => ?_
    refine VL.va (op_cmp rfl rfl (congrArg some hb1471) (ltn rfl)) rfl ?_
    refine VL.va (op_pick rfl rfl (ltn rfl)) rfl ?_
    refine VL.done ?_
    refine VN.then ?_
    by_cases c1472 : (l0_1.length : Int) = (l1_1.length : Int)
    · rw [if_pos c1472] at h
      obtain rfl : b1471 = false := hb1471.symm.trans (bne_eq_false_iff_eq.2 c1472)
      refine VC.cond_f rfl ?_
      refine VC.skip ?_
      refine VN.then ?_
      refine VC.seq ?_
      refine VC.seq ?_
      refine VC.region ?_
      refine VL.va (op_fieldAddr FI25_0 rfl (add_at _ _ _) (ltn rfl)) rfl ?_
      refine VL.va (op_load 1 1 rfl rfl TI22 rfl (by decide) (ltn rfl)) rfl ?_
      refine VL.va (op_len (m := l0_0.length) 0 lenm Try.underlying22 rfl rfl (ltn rfl)) rfl ?_
      refine VL.va (op_move rfl (ltn rfl)) rfl ?_
      refine VL.done ?_
      refine VN.then ?_
      refine VC.block ?_
      refine VC.loop1 (fun (i1526 : Int) => ⟨59, [(2, .pointer (some ⟨g1457, 0, none⟩)), (3, .pointer (some ⟨g1458, 0, none⟩)), (4, .bool false), (25, .int .i64 (l0_0.length : Int)), (26, .int .i64 i1526)], [.row v1_0 1 (l1_0.map enc_str), .row v1_1 2 (l1_1.map enc32), .row v0_0 1 (l0_0.map enc_str), .row v0_1 2 (l0_1.map enc32)], [(g1458, 25, [v1_0, v1_1]), (g1457, 25, [v0_0, v0_1])], []⟩) (fun (ml1 : Nat) (i1526 : Int) => tarryref03_Like.l1 k l0_0 l0_1 l1_0 l1_1 ml1 i1526 = some r1) k 0 [0, 1] [] h ⟨rfl, ⟨rfl, rfl, rfl, rfl, rfl, trivial⟩, ⟨⟨2, rfl⟩, ⟨3, rfl⟩, ⟨0, rfl⟩, ⟨1, rfl⟩, trivial⟩, rfl, by decide, rfl, by decide⟩ (by intros; simp [tarryref03_Like.l1]) ?_
      clear h
      intro ml1 ihl1 i1526 h
      simp only [tarryref03_Like.l1] at h
      refine VC.seq ?_
      refine VC.region ?_
      refine VL.letter (decide (i1526 < (l0_0.length : Int))) fun b1540 hb1540 => ?_
      refine VL.va (op_cmp rfl rfl (congrArg some hb1540) (ltn rfl)) rfl ?_
      refine VL.done ?_
      refine VN.then ?_
      refine VC.seq ?_
      by_cases c1622 : i1526 < (l0_0.length : Int)
      · rw [if_pos c1622] at h
        obtain rfl : b1540 = true := hb1540.symm.trans (decide_eq_true c1622)
        refine VC.cond_t rfl ?_
        refine VC.skip ?_
        refine VN.then ?_
        refine VC.seq ?_
        refine VC.block ?_
        refine VC.seq ?_
        refine VC.region ?_
        refine VL.va (op_move rfl (ltn rfl)) rfl ?_
        refine VL.va (op_assign rfl (ltn rfl)) rfl ?_
        refine VL.done ?_
        refine VN.then ?_
        by_cases c1628 : 0 ≤ i1526
        · rw [if_pos c1628] at h
          replace h := Option.bind_eq_some_iff.1 h
          obtain ⟨x1629, hx1629, h⟩ := h
          replace h := Option.bind_eq_some_iff.1 h
          obtain ⟨x1630, hx1630, h⟩ := h
          refine VC.letter ((x1629 != x1630)) fun b1631 hb1631 => ?_
          refine VC.open (m := l0_0.length) 2 lenm rfl (pos_get hx1629) ?_
          rintro ad1477 n1478 rfl
          refine VC.open (m := l1_0.length) 0 lenm rfl (pos_get hx1630) ?_
          rintro ad1480 n1481 rfl
          refine VC.join0 (⟨59, [(2, .pointer (some ⟨g1457, 0, none⟩)), (3, .pointer (some ⟨g1458, 0, none⟩)), (4, .bool false), (5, .int .i64 i1526), (25, .int .i64 (l0_0.length : Int)), (26, .int .i64 i1526), (27, .bool true), (28, .int .i64 i1526), (29, .pointer (some ⟨g1457, 0, none⟩)), (30, (.slice (some ad1477) l0_0.length n1478)), (31, .int .i64 i1526), (33, .string x1629), (34, .pointer (some ⟨g1458, 0, none⟩)), (35, (.slice (some ad1480) l1_0.length n1481)), (36, .int .i64 i1526), (38, .string x1630), (39, .bool b1631)], [.row (.slice (some ad1480) l1_0.length n1481) 1 (l1_0.map enc_str), .row v1_1 2 (l1_1.map enc32), .row (.slice (some ad1477) l0_0.length n1478) 1 (l0_0.map enc_str), .row v0_1 2 (l0_1.map enc32)], [(g1458, 25, [(.slice (some ad1480) l1_0.length n1481), v1_1]), (g1457, 25, [(.slice (some ad1477) l0_0.length n1478), v0_1])], []⟩) (True) ?_ ?_
          · refine VC.draw ⟨0, [], [.row (.slice (some ad1480) l1_0.length n1481) 1 (l1_0.map enc_str), .row (.slice (some ad1477) l0_0.length n1478) 1 (l0_0.map enc_str)], [(g1458, 25, [(.slice (some ad1480) l1_0.length n1481), v1_1]), (g1457, 25, [(.slice (some ad1477) l0_0.length n1478), v0_1])], []⟩ (by kernel_rfl) rfl (by kernel_rfl) (n := 11) (listed := LB 11 0) ?_
            refine VA.va (i := 0) (listed' := LB 11 1) rfl (op_fieldAddr FI25_0 rfl (add_at _ _ _) (ltn rfl)) rfl (by kernel_rfl) (by kernel_rfl) (by kernel_rfl) (by kernel_rfl) ⟨⟨⟨0, rfl⟩, ⟨2, rfl⟩, trivial⟩, ⟨⟨0, rfl⟩, ⟨1, rfl⟩, trivial⟩, trivial⟩ (fun _ _ _ h => h) ?_
            refine VA.va (i := 1) (listed' := LB 11 3) rfl (op_load 1 1 rfl rfl TI22 rfl (by decide) (ltn rfl)) rfl (by kernel_rfl) (by kernel_rfl) (by kernel_rfl) (by kernel_rfl) ⟨⟨⟨0, rfl⟩, ⟨2, rfl⟩, trivial⟩, ⟨⟨0, rfl⟩, ⟨1, rfl⟩, trivial⟩, trivial⟩ (fun _ _ _ h => h) ?_
            refine VA.va (i := 2) (listed' := LB 11 7) rfl (op_move rfl (ltn rfl)) rfl (by kernel_rfl) (by kernel_rfl) (by kernel_rfl) (by kernel_rfl) ⟨⟨⟨0, rfl⟩, ⟨2, rfl⟩, trivial⟩, ⟨⟨0, rfl⟩, ⟨1, rfl⟩, trivial⟩, trivial⟩ (fun _ _ _ h => h) ?_
            refine VA.va (i := 3) (listed' := LB 11 15) rfl (op_indexAddr Try.underlying22 TI9 rfl rfl c1628 (lt_get c1628 hx1629) rfl (ltn rfl)) rfl (by kernel_rfl) (by kernel_rfl) (by kernel_rfl) (by kernel_rfl) ⟨⟨⟨0, rfl⟩, ⟨2, rfl⟩, trivial⟩, ⟨⟨0, rfl⟩, ⟨1, rfl⟩, trivial⟩, trivial⟩ (fun _ _ _ h => h) ?_
            refine VA.va (i := 4) (listed' := LB 11 31) rfl (op_load_row (sz := 1) (o := 0) 1 i1526.toNat 1 rfl rfl (get_map hx1629) TI9 rfl (by decide) (ltn rfl)) rfl (by kernel_rfl) (by kernel_rfl) (by kernel_rfl) (by kernel_rfl) ⟨⟨⟨0, rfl⟩, ⟨2, rfl⟩, trivial⟩, ⟨⟨0, rfl⟩, ⟨1, rfl⟩, trivial⟩, trivial⟩ (fun _ _ _ h => h) ?_
            refine VA.va (i := 5) (listed' := LB 11 63) rfl (op_fieldAddr FI25_0 rfl (add_at _ _ _) (ltn rfl)) rfl (by kernel_rfl) (by kernel_rfl) (by kernel_rfl) (by kernel_rfl) ⟨⟨⟨0, rfl⟩, ⟨2, rfl⟩, trivial⟩, ⟨⟨0, rfl⟩, ⟨1, rfl⟩, trivial⟩, trivial⟩ (fun _ _ _ h => h) ?_
            refine VA.va (i := 6) (listed' := LB 11 127) rfl (op_load 0 1 rfl rfl TI22 rfl (by decide) (ltn rfl)) rfl (by kernel_rfl) (by kernel_rfl) (by kernel_rfl) (by kernel_rfl) ⟨⟨⟨0, rfl⟩, ⟨2, rfl⟩, trivial⟩, ⟨⟨0, rfl⟩, ⟨1, rfl⟩, trivial⟩, trivial⟩ (fun _ _ _ h => h) ?_
            refine VA.va (i := 7) (listed' := LB 11 255) rfl (op_move rfl (ltn rfl)) rfl (by kernel_rfl) (by kernel_rfl) (by kernel_rfl) (by kernel_rfl) ⟨⟨⟨0, rfl⟩, ⟨2, rfl⟩, trivial⟩, ⟨⟨0, rfl⟩, ⟨1, rfl⟩, trivial⟩, trivial⟩ (fun _ _ _ h => h) ?_
            refine VA.va (i := 8) (listed' := LB 11 511) rfl (op_indexAddr Try.underlying22 TI9 rfl rfl c1628 (lt_get c1628 hx1630) rfl (ltn rfl)) rfl (by kernel_rfl) (by kernel_rfl) (by kernel_rfl) (by kernel_rfl) ⟨⟨⟨0, rfl⟩, ⟨2, rfl⟩, trivial⟩, ⟨⟨0, rfl⟩, ⟨1, rfl⟩, trivial⟩, trivial⟩ (fun _ _ _ h => h) ?_
            refine VA.va (i := 9) (listed' := LB 11 1023) rfl (op_load_row (sz := 1) (o := 0) 0 i1526.toNat 1 rfl rfl (get_map hx1630) TI9 rfl (by decide) (ltn rfl)) rfl (by kernel_rfl) (by kernel_rfl) (by kernel_rfl) (by kernel_rfl) ⟨⟨⟨0, rfl⟩, ⟨2, rfl⟩, trivial⟩, ⟨⟨0, rfl⟩, ⟨1, rfl⟩, trivial⟩, trivial⟩ (fun _ _ _ h => h) ?_
            refine VA.va (i := 10) (listed' := LB 11 2047) rfl (op_cmps rfl rfl (congrArg some hb1631) (ltn rfl)) rfl (by kernel_rfl) (by kernel_rfl) (by kernel_rfl) (by kernel_rfl) ⟨⟨⟨0, rfl⟩, ⟨2, rfl⟩, trivial⟩, ⟨⟨0, rfl⟩, ⟨1, rfl⟩, trivial⟩, trivial⟩ (fun _ _ _ h => h) ?_
            refine VA.done (by kernel_rfl) ?_
            exact VN.meet0  [0, 1] [] trivial ⟨rfl, ⟨rfl, rfl, rfl, rfl, rfl, rfl, rfl, rfl, rfl, rfl, rfl, rfl, rfl, rfl, rfl, rfl, rfl, trivial⟩, ⟨⟨0, rfl⟩, ⟨1, rfl⟩, ⟨2, rfl⟩, ⟨3, rfl⟩, trivial⟩, rfl, by decide, rfl, by decide⟩
          intro _
          by_cases c1632 : (x1629 == x1630) = true
          · rw [if_pos c1632] at h
            obtain rfl : b1631 = false := hb1631.symm.trans (bne_of_t c1632)
            refine VC.cond_f rfl ?_
            refine VC.skip ?_
            refine VN.block ?_
            refine VN.then ?_
            refine VC.region ?_
            refine VL.va (op_ari64 rfl rfl rfl (ltn rfl)) rfl ?_
            refine VL.va (op_move rfl (ltn rfl)) rfl ?_
            refine VL.done ?_
            refine VN.again [0, 1] [] (ihl1 (wrap64 (i1526 + 1)) h) ⟨rfl, ⟨rfl, rfl, rfl, rfl, rfl, trivial⟩, ⟨⟨0, rfl⟩, ⟨1, rfl⟩, ⟨2, rfl⟩, ⟨3, rfl⟩, trivial⟩, rfl, by decide, rfl, by decide⟩
          · rw [if_neg c1632] at h
            obtain rfl : b1631 = true := hb1631.symm.trans (bne_of_f c1632)
            refine VC.cond_t rfl ?_
            refine VC.seq ?_
            refine VC.region ?_
            refine VL.va (op_assign rfl (ltn rfl)) rfl ?_
            refine VL.done ?_
            refine VN.then ?_
            refine VC.ret ?_
            refine VR.block ?_
            refine VR.then ?_
            refine VR.then ?_
            refine VR.block ?_
            refine VR.then ?_
            obtain rfl := Option.some.inj h
            exact VR.fn (rs := [.tmp 4]) [] [] [] rfl (.tmp rfl .nil) ⟨rfl, rfl, rfl⟩ trivial rfl (by decide)
        · rw [if_neg c1628] at h; cases h
      · rw [if_neg c1622] at h
        obtain rfl : b1540 = false := hb1540.symm.trans (decide_eq_false c1622)
        refine VC.cond_f rfl ?_
        refine VC.exit ?_
        refine VX.then ?_
        refine VX.then ?_
        refine VX.hit ?_
        refine VN.then ?_
        refine VC.seq ?_
        refine VC.seq ?_
        refine VC.region ?_
        refine VL.va (op_fieldAddr FI25_1 rfl (add_at _ _ _) (ltn rfl)) rfl ?_
        refine VL.va (op_load 1 1 rfl rfl TI23 rfl (by decide) (ltn rfl)) rfl ?_
        refine VL.va (op_len (m := l0_1.length) 3 lenm Try.underlying23 rfl rfl (ltn rfl)) rfl ?_
        refine VL.va (op_move rfl (ltn rfl)) rfl ?_
        refine VL.done ?_
        refine VN.then ?_
        refine VC.block ?_
        refine VC.loop1 (fun (i1682 : Int) => ⟨59, [(2, .pointer (some ⟨g1457, 0, none⟩)), (3, .pointer (some ⟨g1458, 0, none⟩)), (4, .bool false), (43, .int .i64 (l0_1.length : Int)), (44, .int .i64 i1682)], [.row v1_0 1 (l1_0.map enc_str), .row v1_1 2 (l1_1.map enc32), .row v0_0 1 (l0_0.map enc_str), .row v0_1 2 (l0_1.map enc32)], [(g1458, 25, [v1_0, v1_1]), (g1457, 25, [v0_0, v0_1])], []⟩) (fun (ml5 : Nat) (i1682 : Int) => tarryref03_Like.l5 k l0_1 l1_1 ml5 i1682 = some r1) k 0 [0, 1] [] h ⟨rfl, ⟨rfl, rfl, rfl, rfl, rfl, trivial⟩, ⟨⟨0, rfl⟩, ⟨1, rfl⟩, ⟨2, rfl⟩, ⟨3, rfl⟩, trivial⟩, rfl, by decide, rfl, by decide⟩ (by intros; simp [tarryref03_Like.l5]) ?_
        clear h
        intro ml5 ihl5 i1682 h
        simp only [tarryref03_Like.l5] at h
        refine VC.seq ?_
        refine VC.region ?_
        refine VL.letter (decide (i1682 < (l0_1.length : Int))) fun b1696 hb1696 => ?_
        refine VL.va (op_cmp rfl rfl (congrArg some hb1696) (ltn rfl)) rfl ?_
        refine VL.done ?_
        refine VN.then ?_
        refine VC.seq ?_
        by_cases c1698 : i1682 < (l0_1.length : Int)
        · rw [if_pos c1698] at h
          obtain rfl : b1696 = true := hb1696.symm.trans (decide_eq_true c1698)
          refine VC.cond_t rfl ?_
          refine VC.skip ?_
          refine VN.then ?_
          refine VC.seq ?_
          refine VC.block ?_
          refine VC.seq ?_
          refine VC.region ?_
          refine VL.va (op_move rfl (ltn rfl)) rfl ?_
          refine VL.va (op_assign rfl (ltn rfl)) rfl ?_
          refine VL.done ?_
          refine VN.then ?_
          by_cases c1704 : 0 ≤ i1682
          · rw [if_pos c1704] at h
            replace h := Option.bind_eq_some_iff.1 h
            obtain ⟨x1705, hx1705, h⟩ := h
            replace h := Option.bind_eq_some_iff.1 h
            obtain ⟨x1706, hx1706, h⟩ := h
            refine VC.letter ((!(((x1705.f0 == x1706.f0) && (x1705.f1 == x1706.f1))))) fun b1707 hb1707 => ?_
            refine VC.open (m := l0_1.length) 3 lenm rfl (pos_get hx1705) ?_
            rintro ad1546 n1547 rfl
            refine VC.open (m := l1_1.length) 1 lenm rfl (pos_get hx1706) ?_
            rintro ad1549 n1550 rfl
            refine VC.join0 (⟨59, [(2, .pointer (some ⟨g1457, 0, none⟩)), (3, .pointer (some ⟨g1458, 0, none⟩)), (4, .bool false), (6, .int .i64 i1682), (43, .int .i64 (l0_1.length : Int)), (44, .int .i64 i1682), (45, .bool true), (46, .int .i64 i1682), (47, .pointer (some ⟨g1457, 1, none⟩)), (48, (.slice (some ad1546) l0_1.length n1547)), (49, .int .i64 i1682), (51, .agg #[.int .i64 x1705.f0, .string x1705.f1]), (52, .pointer (some ⟨g1458, 1, none⟩)), (53, (.slice (some ad1549) l1_1.length n1550)), (54, .int .i64 i1682), (56, .agg #[.int .i64 x1706.f0, .string x1706.f1]), (57, .bool b1707)], [.row v1_0 1 (l1_0.map enc_str), .row (.slice (some ad1549) l1_1.length n1550) 2 (l1_1.map enc32), .row v0_0 1 (l0_0.map enc_str), .row (.slice (some ad1546) l0_1.length n1547) 2 (l0_1.map enc32)], [(g1458, 25, [v1_0, (.slice (some ad1549) l1_1.length n1550)]), (g1457, 25, [v0_0, (.slice (some ad1546) l0_1.length n1547)])], []⟩) (True) ?_ ?_
            · refine VC.draw ⟨0, [], [.row (.slice (some ad1549) l1_1.length n1550) 2 (l1_1.map enc32), .row (.slice (some ad1546) l0_1.length n1547) 2 (l0_1.map enc32)], [(g1458, 25, [v1_0, (.slice (some ad1549) l1_1.length n1550)]), (g1457, 25, [v0_0, (.slice (some ad1546) l0_1.length n1547)])], []⟩ (by kernel_rfl) rfl (by kernel_rfl) (n := 11) (listed := LB 11 0) ?_
              refine VA.va (i := 0) (listed' := LB 11 1) rfl (op_fieldAddr FI25_1 rfl (add_at _ _ _) (ltn rfl)) rfl (by kernel_rfl) (by kernel_rfl) (by kernel_rfl) (by kernel_rfl) ⟨⟨⟨1, rfl⟩, ⟨3, rfl⟩, trivial⟩, ⟨⟨0, rfl⟩, ⟨1, rfl⟩, trivial⟩, trivial⟩ (fun _ _ _ h => h) ?_
              refine VA.va (i := 1) (listed' := LB 11 3) rfl (op_load 1 1 rfl rfl TI23 rfl (by decide) (ltn rfl)) rfl (by kernel_rfl) (by kernel_rfl) (by kernel_rfl) (by kernel_rfl) ⟨⟨⟨1, rfl⟩, ⟨3, rfl⟩, trivial⟩, ⟨⟨0, rfl⟩, ⟨1, rfl⟩, trivial⟩, trivial⟩ (fun _ _ _ h => h) ?_
              refine VA.va (i := 2) (listed' := LB 11 7) rfl (op_move rfl (ltn rfl)) rfl (by kernel_rfl) (by kernel_rfl) (by kernel_rfl) (by kernel_rfl) ⟨⟨⟨1, rfl⟩, ⟨3, rfl⟩, trivial⟩, ⟨⟨0, rfl⟩, ⟨1, rfl⟩, trivial⟩, trivial⟩ (fun _ _ _ h => h) ?_
              refine VA.va (i := 3) (listed' := LB 11 15) rfl (op_indexAddr Try.underlying23 TI33 rfl rfl c1704 (lt_get c1704 hx1705) rfl (ltn rfl)) rfl (by kernel_rfl) (by kernel_rfl) (by kernel_rfl) (by kernel_rfl) ⟨⟨⟨1, rfl⟩, ⟨3, rfl⟩, trivial⟩, ⟨⟨0, rfl⟩, ⟨1, rfl⟩, trivial⟩, trivial⟩ (fun _ _ _ h => h) ?_
              refine VA.va (i := 4) (listed' := LB 11 31) rfl (op_load_row (sz := 2) (o := 0) 1 i1682.toNat 2 rfl rfl (get_map hx1705) TI33 rfl (fun h => absurd h (by decide)) (ltn rfl)) rfl (by kernel_rfl) (by kernel_rfl) (by kernel_rfl) (by kernel_rfl) ⟨⟨⟨1, rfl⟩, ⟨3, rfl⟩, trivial⟩, ⟨⟨0, rfl⟩, ⟨1, rfl⟩, trivial⟩, trivial⟩ (fun _ _ _ h => h) ?_
              refine VA.va (i := 5) (listed' := LB 11 63) rfl (op_fieldAddr FI25_1 rfl (add_at _ _ _) (ltn rfl)) rfl (by kernel_rfl) (by kernel_rfl) (by kernel_rfl) (by kernel_rfl) ⟨⟨⟨1, rfl⟩, ⟨3, rfl⟩, trivial⟩, ⟨⟨0, rfl⟩, ⟨1, rfl⟩, trivial⟩, trivial⟩ (fun _ _ _ h => h) ?_
              refine VA.va (i := 6) (listed' := LB 11 127) rfl (op_load 0 1 rfl rfl TI23 rfl (by decide) (ltn rfl)) rfl (by kernel_rfl) (by kernel_rfl) (by kernel_rfl) (by kernel_rfl) ⟨⟨⟨1, rfl⟩, ⟨3, rfl⟩, trivial⟩, ⟨⟨0, rfl⟩, ⟨1, rfl⟩, trivial⟩, trivial⟩ (fun _ _ _ h => h) ?_
              refine VA.va (i := 7) (listed' := LB 11 255) rfl (op_move rfl (ltn rfl)) rfl (by kernel_rfl) (by kernel_rfl) (by kernel_rfl) (by kernel_rfl) ⟨⟨⟨1, rfl⟩, ⟨3, rfl⟩, trivial⟩, ⟨⟨0, rfl⟩, ⟨1, rfl⟩, trivial⟩, trivial⟩ (fun _ _ _ h => h) ?_
              refine VA.va (i := 8) (listed' := LB 11 511) rfl (op_indexAddr Try.underlying23 TI33 rfl rfl c1704 (lt_get c1704 hx1706) rfl (ltn rfl)) rfl (by kernel_rfl) (by kernel_rfl) (by kernel_rfl) (by kernel_rfl) ⟨⟨⟨1, rfl⟩, ⟨3, rfl⟩, trivial⟩, ⟨⟨0, rfl⟩, ⟨1, rfl⟩, trivial⟩, trivial⟩ (fun _ _ _ h => h) ?_
              refine VA.va (i := 9) (listed' := LB 11 1023) rfl (op_load_row (sz := 2) (o := 0) 0 i1682.toNat 2 rfl rfl (get_map hx1706) TI33 rfl (fun h => absurd h (by decide)) (ltn rfl)) rfl (by kernel_rfl) (by kernel_rfl) (by kernel_rfl) (by kernel_rfl) ⟨⟨⟨1, rfl⟩, ⟨3, rfl⟩, trivial⟩, ⟨⟨0, rfl⟩, ⟨1, rfl⟩, trivial⟩, trivial⟩ (fun _ _ _ h => h) ?_
              refine VA.va (i := 10) (listed' := LB 11 2047) rfl (op_neS rfl rfl EG33 (EQ33 x1705.f0 x1705.f1 x1706.f0 x1706.f1) hb1707 (ltn rfl)) rfl (by kernel_rfl) (by kernel_rfl) (by kernel_rfl) (by kernel_rfl) ⟨⟨⟨1, rfl⟩, ⟨3, rfl⟩, trivial⟩, ⟨⟨0, rfl⟩, ⟨1, rfl⟩, trivial⟩, trivial⟩ (fun _ _ _ h => h) ?_
              refine VA.done (by kernel_rfl) ?_
              exact VN.meet0  [0, 1] [] trivial ⟨rfl, ⟨rfl, rfl, rfl, rfl, rfl, rfl, rfl, rfl, rfl, rfl, rfl, rfl, rfl, rfl, rfl, rfl, rfl, trivial⟩, ⟨⟨0, rfl⟩, ⟨1, rfl⟩, ⟨2, rfl⟩, ⟨3, rfl⟩, trivial⟩, rfl, by decide, rfl, by decide⟩
            intro _
            by_cases c1708 : (((x1705.f0 == x1706.f0) && (x1705.f1 == x1706.f1))) = true
            · rw [if_pos c1708] at h
              obtain rfl : b1707 = false := hb1707.symm.trans (not_t c1708)
              refine VC.cond_f rfl ?_
              refine VC.skip ?_
              refine VN.block ?_
              refine VN.then ?_
              refine VC.region ?_
              refine VL.va (op_ari64 rfl rfl rfl (ltn rfl)) rfl ?_
              refine VL.va (op_move rfl (ltn rfl)) rfl ?_
              refine VL.done ?_
              refine VN.again [0, 1] [] (ihl5 (wrap64 (i1682 + 1)) h) ⟨rfl, ⟨rfl, rfl, rfl, rfl, rfl, trivial⟩, ⟨⟨0, rfl⟩, ⟨1, rfl⟩, ⟨2, rfl⟩, ⟨3, rfl⟩, trivial⟩, rfl, by decide, rfl, by decide⟩
            · rw [if_neg c1708] at h
              obtain rfl : b1707 = true := hb1707.symm.trans (not_f c1708)
              refine VC.cond_t rfl ?_
              refine VC.seq ?_
              refine VC.region ?_
              refine VL.va (op_assign rfl (ltn rfl)) rfl ?_
              refine VL.done ?_
              refine VN.then ?_
              refine VC.ret ?_
              refine VR.block ?_
              refine VR.then ?_
              refine VR.then ?_
              refine VR.block ?_
              refine VR.then ?_
              obtain rfl := Option.some.inj h
              exact VR.fn (rs := [.tmp 4]) [] [] [] rfl (.tmp rfl .nil) ⟨rfl, rfl, rfl⟩ trivial rfl (by decide)
          · rw [if_neg c1704] at h; cases h
        · rw [if_neg c1698] at h
          obtain rfl : b1696 = false := hb1696.symm.trans (decide_eq_false c1698)
          refine VC.cond_f rfl ?_
          refine VC.exit ?_
          refine VX.then ?_
          refine VX.then ?_
          refine VX.hit ?_
          refine VN.then ?_
          refine VC.seq ?_
          refine VC.region ?_
          refine VL.va (op_assign rfl (ltn rfl)) rfl ?_
          refine VL.done ?_
          refine VN.then ?_
          refine VC.ret ?_
          obtain rfl := Option.some.inj h
          exact VR.fn (rs := [.tmp 4]) [] [] [] rfl (.tmp rfl .nil) ⟨rfl, rfl, rfl⟩ trivial rfl (by decide)
    · rw [if_neg c1472] at h
      obtain rfl : b1471 = true := hb1471.symm.trans (bne_iff_ne.2 c1472)
      refine VC.cond_t rfl ?_
      refine VC.seq ?_
      refine VC.region ?_
      refine VL.va (op_assign rfl (ltn rfl)) rfl ?_
      refine VL.done ?_
      refine VN.then ?_
      refine VC.ret ?_
      refine VR.then ?_
      obtain rfl := Option.some.inj h
      exact VR.fn (rs := [.tmp 4]) [] [] [] rfl (.tmp rfl .nil) ⟨rfl, rfl, rfl⟩ trivial rfl (by decide)
  · rw [if_neg c1470] at h
    obtain rfl : b1469 = true := hb1469.symm.trans (bne_iff_ne.2 c1470)
    refine VL.un rfl rfl (ltn rfl) ?_
    refine VL.un rfl rfl (ltn rfl) ?_
    refine VL.un rfl rfl (ltn rfl) ?_
    refine VL.un rfl rfl (ltn rfl) ?_
    refine VL.un rfl rfl (ltn rfl) ?_
    refine VL.un rfl rfl (ltn rfl) ?_
    refine VL.un rfl rfl (ltn rfl) ?_
    refine VL.va (op_pick rfl rfl (ltn rfl)) rfl ?_
    refine VL.done ?_
    refine VN.then ?_
    refine VC.cond_t rfl ?_
    refine VC.seq ?_
    refine VC.region ?_
    refine VL.va (op_assign rfl (ltn rfl)) rfl ?_
    refine VL.done ?_
    refine VN.then ?_
    refine VC.ret ?_
    refine VR.then ?_
    obtain rfl := Option.some.inj h
    exact VR.fn (rs := [.tmp 4]) [] [] [] rfl (.tmp rfl .nil) ⟨rfl, rfl, rfl⟩ trivial rfl (by decide)

end Go.Proofs.Ytlfkendmepdbkaa.PDiskWorks
