/- Written by a program of this repo: what the program's functions do, each as a Lean function, shown of the loaded code; or a statement's row over that; no condition of its own. -/
import Derived.Test.YtipeglbeongfmaaPJournalOpensx16
namespace Go.Proofs.Ytipeglbeongfmaa.PJournalOpens
open Go Go.RowKit Go.Proofs.YtipeglbeongfmaaV
set_option linter.unusedVariables false
set_option linter.unusedSimpArgs false
set_option maxHeartbeats 4000000
set_option maxRecDepth 100000

theorem disk_Get.ok (k : Nat) (l0_0 : List ByteArray) (l0_1 : List S55) (a1 : Int) (v0_0 : Value) (v0_1 : Value) (r1 : ByteArray) (r2 : Int) (h : disk_Get.f k l0_0 l0_1 a1 = some (r1, r2)) :
    VCalls Try.prog 86 [.agg #[v0_0, v0_1], iv a1] [.row v0_0 1 (l0_0.map enc_str), .row v0_1 2 (l0_1.map enc55)] (fun v G own => v = .tuple #[.string r1, iv r2] ∧ G = [] ∧ own = []) := by
  refine VCalls.introM Try.func86 rfl (len rfl) fun E hC hW hD hU => ?_
  unfold disk_Get.f at h
  refine sr <| sG (o_box rfl (.agg (.f 0 rfl (.f 1 rfl .nil)))) fun g26878 => sG (o_box rfl (.c rfl)) fun g26879 => sG (o_alloc Z9 ZL9) fun g26880 => sG (o_alloc Z30 ZL30) fun g26881 => ds <| VC.block <| sr <| va (op_load 3 2 rfl rfl TI25 rfl (fun h => absurd h (by decide))) <| ?_
  replace h := bd h
  obtain ⟨t26898, hA26899, h⟩ := h
  refine sC (o_call0 FO23 (disk_Right.ok k l0_0 l0_1 v0_0 v0_1 t26898 hA26899) rfl rfl (ltn rfl) (All_of (.cons (mG 0 rfl) (.cons (mG 1 rfl) .nil)))) <| ?_
  rintro _ _ _ ⟨rfl, rfl, rfl⟩
  replace h := iC h
  rcases h with ⟨c26900, h⟩ | ⟨c26900, h⟩
  · obtain rfl := c26900
    refine va (op_not rfl rfl) <| vs rfl <| dt <| cf <| sr <| va (op_load 2 1 rfl rfl TI3 rfl (by decide)) <| VL.letter (decide (a1 < 0)) fun b26904 hb26904 => va (op_cmp rfl rfl (congrArg some hb26904)) <| vm rfl <| ?_
    replace h := iC h
    rcases h with ⟨c26905, h⟩ | ⟨c26905, h⟩
    · cases lT c26905 hb26904
      refine un rfl <| un rfl <| un rfl <| un rfl <| un rfl <| va (op_pick rfl rfl) <| vs rfl <| dt <| ct <| sr <| s1 (o_store 1 1 rfl rfl rfl TI9 (.c rfl) rfl (len rfl)) <| s1 (o_store 0 1 rfl rfl rfl TI30 (.c rfl) rfl (len rfl)) <| dt <| VC.ret <| VR.block <| VR.then <| ?_
      simp only [Option.some.injEq, Prod.mk.injEq] at h
      obtain ⟨rfl, rfl⟩ := h
      exact VR.m0 <| rf [.cell 4 9, .cell 5 30] [] (.cell 1 rfl rfl TI9 (fun _ => rfl) (.cell 0 rfl rfl TI30 (fun _ => rfl) .nil)) ⟨rfl, rfl, rfl⟩
    cases lF c26905 hb26904
    refine va (op_load 2 1 rfl rfl TI3 rfl (by decide)) <| va (op_fieldAddr FI25_0 rfl (add_at _ _ _)) <| va (op_load 3 1 rfl rfl TI22 rfl (by decide)) <| va (op_len (m := l0_0.length) 0 lenm Try.underlying22 rfl rfl) <|
     VL.letter (decide (a1 ≥ (l0_0.length : Int))) fun b26906 hb26906 => va (op_cmp rfl rfl (congrArg some hb26906)) <| va (op_pick rfl rfl) <| vs rfl <| dt <| ?_
    replace h := iC h
    rcases h with ⟨c26907, h⟩ | ⟨c26907, h⟩
    · cases lT c26907 hb26906
      refine ct <| sr <| s1 (o_store 1 1 rfl rfl rfl TI9 (.c rfl) rfl (len rfl)) <| s1 (o_store 0 1 rfl rfl rfl TI30 (.c rfl) rfl (len rfl)) <| dt <| VC.ret <| VR.block <| VR.then <| ?_
      simp only [Option.some.injEq, Prod.mk.injEq] at h
      obtain ⟨rfl, rfl⟩ := h
      exact VR.m0 <| rf [.cell 4 9, .cell 5 30] [] (.cell 1 rfl rfl TI9 (fun _ => rfl) (.cell 0 rfl rfl TI30 (fun _ => rfl) .nil)) ⟨rfl, rfl, rfl⟩
    cases lF c26907 hb26906
    refine cf <| VC.skip <| VN.block <| ts <| sr <| va (op_fieldAddr FI25_1 rfl (add_at _ _ _)) <| va (op_load 3 1 rfl rfl TI23 rfl (by decide)) <| ?_
    replace h := bd h
    obtain ⟨r26912, hA26913, h⟩ := h
    refine sC (o_call0 FO98 (slices_Backward_api_Write_api_Write.ok l0_1 v0_1 r26912 hA26913) rfl rfl (ltn rfl) (All_of (.cons (mG 1 rfl) .nil))) <| ?_
    rintro _ _ _ ⟨v26915, g26916, rfl, rfl, rfl⟩
    refine dt <| VC.block <| VC.rangeFunc (ps := [25, 26]) (caps := [pt g26916 0]) Try.func101 FO101 rfl rfl (len rfl) fun D26917 l26918 L26919 hLl26918 hDD26917 => sr <|
     va (op_load_at (ad := ⟨g26916, 0, none⟩) 3 0 1 (by first | rfl | exact congrArg (fun a => some (Value.pointer (some a))) (add_at _ 0 _).symm) rfl TI23 rfl (by decide)) <| va (op_len (m := r26912.length) 2 lenm Try.underlying23 rfl rfl) <| va (op_ari64 rfl rfl rfl) <| vs rfl <| dt <| VC.block <|
     VC.loop1 (fun (i26952 : Int) => ⟨19, [(0, (.func (.yield l26918) #[] #[])), (1, pt g26916 0), (3, iv i26952)], [.loop l26918 L26919 .ready none, .dfr D26917, .at_ ⟨g26916, 0, none⟩ [v26915], .row v0_0 1 (l0_0.map enc_str), .row v0_1 2 (l0_1.map enc55), .row v26915 2 (r26912.map enc55)], [(g26881, 30, [iv 0]), (g26880, 9, [.string (⟨#[]⟩ : ByteArray)]), (g26879, 3, [iv a1]), (g26878, 25, [v0_0, v0_1])], []⟩) (fun (ml0 : Nat) (i26952 : Int) => disk_Get.l0 k a1 l0_0 r26912 ml0 i26952 = some (r1, r2)) k (wrap64 ((r26912.length : Int) - 1)) [0, 1, 2, 3] [] h ⟨rfl, ⟨rfl, rfl, rfl, trivial⟩, ⟨⟨0, rfl⟩, ⟨1, rfl⟩, ⟨3, rfl⟩, ⟨4, rfl⟩, ⟨5, rfl⟩, ⟨2, rfl⟩, trivial⟩, rfl, by decide, rfl, by decide⟩ (by intros; simp [disk_Get.l0]) <|
     ?_
    clear h
    intro ml0 ihl0 i26952 h
    simp only [disk_Get.l0] at h
    refine sq <| sr <| vm rfl <| VL.letter (decide (i26952 ≥ 0)) fun b26991 hb26991 => va (op_cmp rfl rfl (congrArg some hb26991)) <| dt <| ?_
    replace h := iC h
    rcases h with ⟨c26992, h⟩ | ⟨c26992, h⟩
    · cases lT c26992 hb26991
      refine ct <| sk <| sq <| VC.block <| sr <| vm rfl <| vm rfl <| va (op_load_at (ad := ⟨g26916, 0, none⟩) 2 0 1 (by first | rfl | exact congrArg (fun a => some (Value.pointer (some a))) (add_at _ 0 _).symm) rfl TI23 rfl (by decide)) <| vm rfl <| ?_
      replace h := iN h
      obtain ⟨c27014, h⟩ := h
      replace h := bd h
      obtain ⟨x27015, hx27015, h⟩ := h
      refine VL.open (m := r26912.length) 5 lenm rfl (pos_get hx27015) <| ?_
      rintro ad27016 n27017 rfl
      refine va (op_indexAddr Try.underlying23 TI56 rfl rfl c27014 (lt_get c27014 hx27015) rfl) <| va (op_load_row (sz := 2) (o := 0) 5 i26952.toNat 2 rfl rfl (get_map hx27015) TI56 rfl (fun h => absurd h (by decide))) <|
       VL.yield (vals := [iv i26952, .agg #[iv x27015.f0, .string x27015.f1]]) hLl26918 rfl rfl rfl rfl (ltn rfl) 0 rfl rfl <| rg <| sG (o_alloc Z56 ZL56) fun g27018 => s1 (o_store 0 2 rfl rfl rfl TI56 (.agg (.of rfl)) rfl (len rfl)) <| dn <| VN.begin 0 hLl26918.base rfl rfl rfl <|
       VC.block <| sr <| va (op_fieldAddr FI56_0 rfl (add_at _ _ _)) <| va (op_load 0 1 rfl rfl TI3 rfl (by decide)) <| va (op_load 3 1 rfl rfl TI3 rfl (by decide)) <| VL.letter ((x27015.f0 == a1)) fun b27019 hb27019 => va (op_cmp rfl rfl (congrArg some hb27019)) <| dt <| ?_
      replace h := iC h
      rcases h with ⟨c27020, h⟩ | ⟨c27020, h⟩
      · obtain rfl : b27019 = true := hb27019.symm.trans (beq_iff_eq.2 c27020)
        refine ct <| sr <| va (op_fieldAddr FI56_1 rfl (add_at _ _ _)) <| va (op_load 0 1 rfl rfl TI9 rfl (by decide)) <| s1 (o_store 2 1 rfl rfl rfl TI9 (.c rfl) rfl (len rfl)) <| s1 (o_store 1 1 rfl rfl rfl TI30 (.c rfl) rfl (len rfl)) <| dt <| VC.ret <| VR.block <|
         VR.endRound 0 hLl26918.base rfl rfl rfl <| va (op_not rfl rfl) <| dt <| ct <| VC.ret <| VR.block <| VR.then <| VR.then <| VR.block <| VR.endRFj 0 rfl rfl rfl rfl <| VC.ret <| VR.block <| VR.then <| ?_
        simp only [Option.some.injEq, Prod.mk.injEq] at h
        obtain ⟨rfl, rfl⟩ := h
        exact VR.mark 0 hDD26917 rfl rfl rfl <| rf [.cell 4 9, .cell 5 30] [] (.cell 2 rfl rfl TI9 (fun _ => rfl) (.cell 1 rfl rfl TI30 (fun _ => rfl) .nil)) ⟨rfl, rfl, rfl⟩
      obtain rfl : b27019 = false := hb27019.symm.trans (beq_eq_false_iff_ne.2 c27020)
      refine cf <| VC.skip <| VN.block <| VN.endRound 0 hLl26918.base rfl rfl rfl <| va (op_not rfl rfl) <| dt <| cf <| VC.skip <| VN.block <| tr <| vm rfl <| va (op_ari64 rfl rfl rfl) <| vs rfl <| dn <| VN.again [1, 2, 3, 4] [] (ihl0 (wrap64 (i26952 - 1)) h)
    cases lF c26992 hb26991
    refine cf <| VC.exit <| VX.then <| VX.then <| VX.hit <| VN.endRF 0 rfl rfl rfl rfl <| VN.block <| tx <| va (op_fieldAddr FI25_0 rfl (add_at _ _ _)) <| va (op_load 3 1 rfl rfl TI22 rfl (by decide)) <| va (op_load 2 1 rfl rfl TI3 rfl (by decide)) <| ?_
    replace h := iN h
    obtain ⟨c27021, h⟩ := h
    replace h := bd h
    obtain ⟨x27022, hx27022, h⟩ := h
    refine VL.open (m := l0_0.length) 2 lenm rfl (pos_get hx27022) <| ?_
    rintro ad27023 n27024 rfl
    refine va (op_indexAddr Try.underlying22 TI9 rfl rfl c27021 (lt_get c27021 hx27022) rfl) <| va (op_load_row (sz := 1) (o := 0) 2 a1.toNat 1 rfl rfl (get_map hx27022) TI9 rfl (by decide)) <| s1 (o_store 1 1 rfl rfl rfl TI9 (.c rfl) rfl (len rfl)) <|
     s1 (o_store 0 1 rfl rfl rfl TI30 (.c rfl) rfl (len rfl)) <| dt <| VC.ret <| ?_
    simp only [Option.some.injEq, Prod.mk.injEq] at h
    obtain ⟨rfl, rfl⟩ := h
    exact VR.mark 0 hDD26917 rfl rfl rfl <| rf [.cell 4 9, .cell 5 30] [] (.cell 1 rfl rfl TI9 (fun _ => rfl) (.cell 0 rfl rfl TI30 (fun _ => rfl) .nil)) ⟨rfl, rfl, rfl⟩
  obtain rfl := Bool.eq_false_iff.2 c26900
  refine va (op_not rfl rfl) <| vs rfl <| dt <| ct <| sr <| s1 (o_store 1 1 rfl rfl rfl TI9 (.c rfl) rfl (len rfl)) <| s1 (o_store 0 1 rfl rfl rfl TI30 (.c rfl) rfl (len rfl)) <| dt <| VC.ret <| VR.block <| VR.then <| ?_
  simp only [Option.some.injEq, Prod.mk.injEq] at h
  obtain ⟨rfl, rfl⟩ := h
  exact VR.m0 <| rf [.cell 4 9, .cell 5 30] [] (.cell 1 rfl rfl TI9 (fun _ => rfl) (.cell 0 rfl rfl TI30 (fun _ => rfl) .nil)) ⟨rfl, rfl, rfl⟩

theorem journal_laid.ok (k : Nat) (l0_0 : List ByteArray) (l0_1 : List S55) (a1 : Int) (a2 : Int) (a3 : ByteArray) (v0_0 : Value) (v0_1 : Value) (r1 : List ByteArray) (r2 : List S55) (h : journal_laid.f k l0_0 l0_1 a1 a2 a3 = some (r1, r2)) :
    VCalls Try.prog 72 [.agg #[v0_0, v0_1], iv a1, iv a2, .string a3] [.row v0_0 1 (l0_0.map enc_str), .row v0_1 2 (l0_1.map enc55)] (fun v G own => ∃ w0 w1 : Value, v = .agg #[w0, w1] ∧ G = [.row w0 1 (r1.map enc_str), .row w1 2 (r2.map enc55)] ∧ own = []) := by
  refine VCalls.intro Try.func72 rfl (len rfl) fun E hC hW hD hU => ?_
  unfold journal_laid.f at h
  refine sr <| sG (o_box rfl (.agg (.f 0 rfl (.f 1 rfl .nil)))) fun g27156 => sG (o_alloc Z25 ZL25) fun g27157 => nx <| va (op_fieldAddr FI25_0 rfl (add_at _ _ _)) <| va (op_load 1 1 rfl rfl TI22 rfl (by decide)) <| va (op_len (m := l0_0.length) 0 lenm Try.underlying22 rfl rfl) <| vm rfl <| ?_
  replace h := bd h
  obtain ⟨t27158, hA27159, h⟩ := h
  refine sC (o_call0 FO25 (journal_begin.ok (l0_0.length : Int) a1 t27158 hA27159) rfl rfl (ltn rfl) (All_of .nil)) <| ?_
  rintro _ _ _ ⟨rfl, rfl, rfl⟩
  refine vs rfl <| ds <| VC.block <| VC.loop6 (fun (i27260 : Int) (s27261 : ByteArray) (v27263 : Value) (l27264 : List ByteArray) (v27266 : Value) (l27267 : List S55) => ⟨65, [(2, iv i27260), (3, .string s27261), (4, pt g27156 0), (8, pt g27157 0), (9, iv t27158)], [.row v27263 1 (l27264.map enc_str), .row v27266 2 (l27267.map enc55)], [(g27157, 25, [sn, sn]), (g27156, 25, [v27263, v27266])], []⟩) (fun (ml1 : Nat) (i27260 : Int) (s27261 : ByteArray) (v27263 : Value) (l27264 : List ByteArray) (v27266 : Value) (l27267 : List S55) => journal_laid.l1 k t27158 ml1 i27260 s27261 l27264 l27267 = some (r1, r2)) k a2 a3 v0_0 l0_0 v0_1 l0_1 [0, 1] [] h ⟨rfl, ⟨rfl, rfl, rfl, rfl, rfl, trivial⟩, ⟨⟨0, rfl⟩, ⟨1, rfl⟩, trivial⟩, rfl, by decide, rfl, by decide⟩ (by intros; simp [journal_laid.l1]) <|
   ?_
  clear h
  intro ml1 ihl1 i27260 s27261 v27263 l27264 v27266 l27267 h
  simp only [journal_laid.l1] at h
  refine sq <| sr <| vm rfl <| VL.letter ((s27261 != (⟨#[]⟩ : ByteArray))) fun b27293 hb27293 => va (op_cmps rfl rfl (congrArg some hb27293)) <| dt <| ?_
  replace h := iC h
  rcases h with ⟨c27294, h⟩ | ⟨c27294, h⟩
  · obtain rfl : b27293 = false := hb27293.symm.trans (bne_of_t c27294)
    refine cf <| VC.exit <| VX.then <| VX.then <| VX.hit <| tx <| va (op_load 1 2 rfl rfl TI25 rfl (fun h => absurd h (by decide))) <| s1 (o_store 0 2 rfl rfl rfl TI25 (.agg (.f 0 rfl (.f 1 rfl .nil))) rfl (len rfl)) <| dt <| VC.ret <| ?_
    simp only [Option.some.injEq, Prod.mk.injEq] at h
    obtain ⟨rfl, rfl⟩ := h
    exact rf [.cell 8 25] [] (.cell 0 rfl rfl TI25 (fun h => absurd h (by decide)) .nil) ⟨v27263, v27266, rfl, rfl, rfl⟩
  obtain rfl : b27293 = true := hb27293.symm.trans (bne_of_f c27294)
  refine ct <| sk <| VC.block <| sr <| vm rfl <| vm rfl <| va (op_quo rfl rfl (by decide) rfl) <| va (op_ari64 rfl rfl rfl) <| vm rfl <| va (op_rem rfl rfl (by decide) rfl) <| vs rfl <| vs rfl <| nx <| vm rfl <| va (op_ari64 rfl rfl rfl) <| vm rfl <| va (op_lens Try.underlying9 rfl) <|
   va (op_min rfl rfl) <| vs rfl <| nx <| va (op_load 1 2 rfl rfl TI25 rfl (fun h => absurd h (by decide))) <| vm rfl <| ?_
  replace h := bd h
  obtain ⟨⟨t27295, t27296⟩, hA27297, h⟩ := h
  dsimp only at h
  refine sC (o_call0 FO86 (disk_Get.ok k l27264 l27267 (wrap64 (t27158 + (IntKind.i64.wrap (i27260.tdiv 64)))) v27263 v27266 t27295 t27296 hA27297) rfl rfl (ltn rfl) (All_of (.cons (mG 0 rfl) (.cons (mG 1 rfl) .nil)))) <| ?_
  rintro _ _ _ ⟨rfl, rfl, rfl⟩
  refine vm rfl <| va (op_extract rfl rfl) <| va (op_extract rfl rfl) <| vs rfl <| vs rfl <| dt <| ?_
  replace h := iN h
  obtain ⟨c27298, h⟩ := h
  replace h := iN h
  obtain ⟨c27299, h⟩ := h
  replace h := iN h
  obtain ⟨c27300, h⟩ := h
  replace h := iN h
  obtain ⟨c27301, h⟩ := h
  replace h := iN h
  obtain ⟨c27302, h⟩ := h
  replace h := iN h
  obtain ⟨c27303, h⟩ := h
  replace h := iN h
  obtain ⟨c27304, h⟩ := h
  replace h := iN h
  obtain ⟨c27305, h⟩ := h
  replace h := bd h
  obtain ⟨⟨r27306, r27307, t27308⟩, hA27309, h⟩ := h
  dsimp only at h
  refine VC.join2 (fun (v27311 : Value) (v27313 : Value) => ⟨65, [(2, iv i27260), (3, .string s27261), (4, pt g27156 0), (8, pt g27157 0), (9, iv t27158), (10, iv (wrap64 (t27158 + (IntKind.i64.wrap (i27260.tdiv 64))))), (11, iv (i27260.tmod 64)), (12, iv (mn (wrap64 (64 - (i27260.tmod 64))) (s27261.size : Int))), (13, .string t27295), (20, .string s27261), (21, .bool true), (22, iv t27158), (23, iv i27260), (24, iv (IntKind.i64.wrap (i27260.tdiv 64))), (25, iv (wrap64 (t27158 + (IntKind.i64.wrap (i27260.tdiv 64))))), (26, iv i27260), (27, iv (i27260.tmod 64)), (28, iv (i27260.tmod 64)), (29, iv (wrap64 (64 - (i27260.tmod 64)))), (30, .string s27261), (31, iv (s27261.size : Int)), (32, iv (mn (wrap64 (64 - (i27260.tmod 64))) (s27261.size : Int))), (33, .tuple #[.string t27295, iv t27296]), (34, .agg #[v27263, v27266]), (35, iv (wrap64 (t27158 + (IntKind.i64.wrap (i27260.tdiv 64))))), (36, .tuple #[.string t27295, iv t27296]), (37, .string t27295), (38, iv t27296), (39, .tuple #[.agg #[v27311, v27313], iv t27308]), (40, .agg #[v27263, v27266]), (41, iv (wrap64 (t27158 + (IntKind.i64.wrap (i27260.tdiv 64))))), (42, .string t27295), (43, iv (i27260.tmod 64)), (44, .string (t27295.extract 0 ((i27260.tmod 64).toNat))), (45, .string s27261), (46, iv (mn (wrap64 (64 - (i27260.tmod 64))) (s27261.size : Int))), (47, .string (s27261.extract 0 ((mn (wrap64 (64 - (i27260.tmod 64))) (s27261.size : Int)).toNat))), (48, .string ((t27295.extract 0 ((i27260.tmod 64).toNat)) ++ (s27261.extract 0 ((mn (wrap64 (64 - (i27260.tmod 64))) (s27261.size : Int)).toNat)))), (49, .string t27295), (50, iv (i27260.tmod 64)), (51, iv (mn (wrap64 (64 - (i27260.tmod 64))) (s27261.size : Int))), (52, iv (wrap64 ((i27260.tmod 64) + (mn (wrap64 (64 - (i27260.tmod 64))) (s27261.size : Int))))), (53, .string (t27295.extract ((wrap64 ((i27260.tmod 64) + (mn (wrap64 (64 - (i27260.tmod 64))) (s27261.size : Int)))).toNat) t27295.size)), (54, .string (((t27295.extract 0 ((i27260.tmod 64).toNat)) ++ (s27261.extract 0 ((mn (wrap64 (64 - (i27260.tmod 64))) (s27261.size : Int)).toNat))) ++ (t27295.extract ((wrap64 ((i27260.tmod 64) + (mn (wrap64 (64 - (i27260.tmod 64))) (s27261.size : Int)))).toNat) t27295.size))), (55, .tuple #[.agg #[v27311, v27313], iv t27308]), (56, .agg #[v27311, v27313])], [.row v27311 1 (r27306.map enc_str), .row v27313 2 (r27307.map enc55), .row v27263 1 (l27264.map enc_str), .row v27266 2 (l27267.map enc55)], [(g27157, 25, [sn, sn]), (g27156, 25, [v27311, v27313])], []⟩) (fun (v27311 : Value) (v27313 : Value) => True) ?_ ?_
  · refine VC.drawB ⟨0, [], [], [], []⟩ [19] ⟨0, [], [], [(g27156, 25, [v27263, v27266])], []⟩ (by kernel_rfl) rfl (by kernel_rfl) (n := 20) (listed := LB 20 0) <|
     VB.vb (i := 0) (listed' := LB 20 1) rfl (op_load 0 2 rfl rfl TI25 rfl (fun h => absurd h (by decide))) rfl (by kernel_rfl) (by kernel_rfl) (by kernel_rfl) (by kernel_rfl) (by kernel_rfl) (by kernel_rfl) (PartP.on ⟨trivial, trivial, trivial⟩ ⟨trivial, ⟨⟨1, rfl⟩, trivial⟩, trivial⟩) (fun _ _ _ h => h) <|
     bv 1 3 rfl (mv rfl) <| bv 2 7 rfl (mv rfl) <| bv 3 15 rfl (mv rfl) <| bv 4 31 rfl (op_sliceS 0 ((i27260.tmod 64).toNat) Try.underlying9 rfl ⟨rfl, ⟨_, _, rfl, c27298, rfl⟩, Nat.zero_le _, tN (a := (i27260.tmod 64)) (b := (t27295.size : Int)) rfl rfl c27299⟩ rfl) <| bv 5 63 rfl (mv rfl) <|
     bv 6 127 rfl (mv rfl) <| bv 7 255 rfl (op_sliceS 0 ((mn (wrap64 (64 - (i27260.tmod 64))) (s27261.size : Int)).toNat) Try.underlying9 rfl ⟨rfl, ⟨_, _, rfl, c27300, rfl⟩, Nat.zero_le _, tN (a := (mn (wrap64 (64 - (i27260.tmod 64))) (s27261.size : Int))) (b := (s27261.size : Int)) rfl rfl c27301⟩ rfl) <|
     bv 8 511 rfl (op_adds rfl rfl rfl c27302) <| bv 9 1023 rfl (mv rfl) <| bv 10 2047 rfl (mv rfl) <| bv 11 4095 rfl (mv rfl) <| bv 12 8191 rfl (op_ari64 rfl rfl rfl) <|
     bv 13 16383 rfl (op_sliceS ((wrap64 ((i27260.tmod 64) + (mn (wrap64 (64 - (i27260.tmod 64))) (s27261.size : Int)))).toNat) t27295.size Try.underlying9 rfl ⟨⟨_, _, rfl, c27303, rfl⟩, rfl, tN (a := (wrap64 ((i27260.tmod 64) + (mn (wrap64 (64 - (i27260.tmod 64))) (s27261.size : Int))))) (b := (t27295.size : Int)) rfl rfl c27304, Nat.le_refl _⟩ rfl) <|
     bv 14 32767 rfl (op_adds rfl rfl rfl c27305) <|
     VB.oneC (i := 15) (listed' := LB 20 65535) (by kernel_rfl) rfl (o_call0 FO38 (disk_Put.ok k l27264 l27267 (wrap64 (t27158 + (IntKind.i64.wrap (i27260.tdiv 64)))) (((t27295.extract 0 ((i27260.tmod 64).toNat)) ++ (s27261.extract 0 ((mn (wrap64 (64 - (i27260.tmod 64))) (s27261.size : Int)).toNat))) ++ (t27295.extract ((wrap64 ((i27260.tmod 64) + (mn (wrap64 (64 - (i27260.tmod 64))) (s27261.size : Int)))).toNat) t27295.size)) v27263 v27266 r27306 r27307 t27308 hA27309) rfl rfl (ltn rfl) (All_of (.cons (mG 0 rfl) (.cons (mG 1 rfl) .nil)))) rfl (by kernel_rfl) <|
     ?_
    rintro _ _ _ ⟨v27311, v27313, rfl, rfl, rfl⟩
    refine ⟨(PartP.on ⟨trivial, trivial, trivial⟩ ⟨trivial, ⟨⟨1, rfl⟩, trivial⟩, trivial⟩), ?_⟩
    exact VB.more ⟨0, [], [.row v27311 1 (r27306.map enc_str), .row v27313 2 (r27307.map enc55)], [], []⟩ ⟨trivial, trivial, trivial⟩ <| bv 16 131071 rfl (mv rfl) <| bv 17 262143 rfl (op_extract rfl rfl) <| bv 18 524287 rfl (op_extract rfl rfl) <|
     VB.one1 (i := 19) (listed' := LB 20 1048575) (by kernel_rfl) rfl (o_store 1 2 rfl rfl rfl TI25 (.agg (.f 0 rfl (.f 1 rfl .nil))) rfl (len rfl)) rfl (by kernel_rfl) (PartP.off (by kernel_rfl) ⟨⟨⟨0, rfl⟩, ⟨1, rfl⟩, trivial⟩, trivial, trivial⟩) <| VB.done (by kernel_rfl) <|
     VN.meet2 v27311 v27313 [0, 1] [] trivial
  intro v27311 v27313 _
  refine rg <| vm rfl <| vm rfl <| va (op_sliceS ((mn (wrap64 (64 - (i27260.tmod 64))) (s27261.size : Int)).toNat) s27261.size Try.underlying9 rfl ⟨⟨_, _, rfl, c27300, rfl⟩, rfl, tN (a := (mn (wrap64 (64 - (i27260.tmod 64))) (s27261.size : Int))) (b := (s27261.size : Int)) rfl rfl c27301, Nat.le_refl _⟩ rfl) <|
   vm rfl <| vm rfl <| va (op_ari64 rfl rfl rfl) <| vs rfl <| vs rfl <| dn <| VN.block <|
   VN.again [0, 1] [] (ihl1 (wrap64 (i27260 + (mn (wrap64 (64 - (i27260.tmod 64))) (s27261.size : Int)))) (s27261.extract ((mn (wrap64 (64 - (i27260.tmod 64))) (s27261.size : Int)).toNat) s27261.size) v27311 r27306 v27313 r27307 h)

theorem journal_plan_first.ok (k : Nat) (a0_0 : Int) (a0_1 : Int) (a0_2 : ByteArray) (l1_0 : List ByteArray) (l1_1 : List S55) (a1_2 : Int) (a1_3 : Int) (a1_4 : Int) (l1_5 : List ByteArray) (l1_6 : List ByteArray) (v1_0 : Value) (v1_1 : Value) (v1_5 : Value) (v1_6 : Value) (r1 : List ByteArray) (r2 : List S55) (h : journal_plan_first.f k a0_0 a0_1 a0_2 l1_0 l1_1 a1_2 a1_3 a1_4 l1_5 l1_6 = some (r1, r2)) :
    VCalls Try.prog 48 [.agg #[iv a0_0, iv a0_1, .string a0_2], .agg #[v1_0, v1_1, iv a1_2, iv a1_3, iv a1_4, v1_5, v1_6]] [.row v1_0 1 (l1_0.map enc_str), .row v1_1 2 (l1_1.map enc55), .row v1_5 1 (l1_5.map enc_str), .row v1_6 1 (l1_6.map enc_str)] (fun v G own => ∃ w0 w1 : Value, v = .agg #[w0, w1] ∧ G = [.row w0 1 (r1.map enc_str), .row w1 2 (r2.map enc55)] ∧ own = []) := by
  refine VCalls.intro Try.func48 rfl (len rfl) fun E hC hW hD hU => ?_
  unfold journal_plan_first.f at h
  refine sr <| sG (o_box rfl (.agg (.of rfl))) fun g27336 => sG (o_box rfl (.agg (.f 0 rfl (.f 1 rfl (.c rfl (.c rfl (.c rfl (.f 2 rfl (.f 3 rfl .nil))))))))) fun g27337 => sG (o_alloc Z25 ZL25) fun g27338 => dt <| ?_
  replace h := bd h
  obtain ⟨⟨r27339, r27340⟩, hA27341, h⟩ := h
  dsimp only at h
  replace h := bd h
  obtain ⟨r27346, hA27347, h⟩ := h
  replace h := bd h
  obtain ⟨⟨r27348, r27349, t27350⟩, hA27351, h⟩ := h
  dsimp only at h
  refine VC.join3 (fun (g27356 : Nat) (v27353 : Value) (v27355 : Value) => ⟨26, [(4, pt g27338 0), (5, pt g27356 0)], [.row v27353 1 (r27348.map enc_str), .row v27355 2 (r27349.map enc55)], [(g27356, 25, [v27353, v27355]), (g27338, 25, [sn, sn])], []⟩) (fun (g27356 : Nat) (v27353 : Value) (v27355 : Value) => True) ?_ ?_
  · refine dw ⟨0, [], [], [(g27337, 27, [v1_0, v1_1, iv a1_2, iv a1_3, iv a1_4, v1_5, v1_6]), (g27336, 81, [iv a0_0, iv a0_1, .string a0_2])], []⟩ 21 <| av 0 1 rfl (op_fieldAddr FI27_0 rfl (add_at _ _ _)) <|
     av 1 3 rfl (op_load 0 2 rfl rfl TI25 rfl (fun h => absurd h (by decide))) <| av 2 7 rfl (op_fieldAddr FI81_0 rfl (add_at _ _ _)) <| av 3 15 rfl (op_load 1 1 rfl rfl TI3 rfl (by decide)) <| av 4 31 rfl (op_fieldAddr FI81_1 rfl (add_at _ _ _)) <|
     av 5 63 rfl (op_load 1 1 rfl rfl TI3 rfl (by decide)) <| av 6 127 rfl (op_fieldAddr FI81_2 rfl (add_at _ _ _)) <| av 7 255 rfl (op_load 1 1 rfl rfl TI9 rfl (by decide)) <| av 9 767 rfl (op_fieldAddr FI27_1 rfl (add_at _ _ _)) <| av 10 1791 rfl (op_load 0 1 rfl rfl TI3 rfl (by decide)) <|
     av 11 3839 rfl (op_ari64 rfl rfl rfl) <| av 12 7935 rfl (op_rem rfl rfl (by decide) rfl) <| VA.all [8, 18] (by kernel_rfl) (by simp) <|
     VAll.consC (listed' := LB 21 8191) rfl (o_call0 FO72 (journal_laid.ok k l1_0 l1_1 a0_0 a0_1 a0_2 v1_0 v1_1 r27339 r27340 hA27341) rfl rfl (ltn rfl) (All_of (.cons (mG 0 rfl) (.cons (mG 1 rfl) .nil)))) rfl (by kernel_rfl) ?_ ?_
    · rintro _ _ _ ⟨v27343, v27345, rfl, rfl, rfl⟩
      refine ⟨⟨trivial, ⟨⟨1, rfl⟩, ⟨2, rfl⟩, trivial⟩, trivial⟩, ?_⟩
      refine VA.all [13, 18] (by kernel_rfl) (by simp) <| VAll.consC (listed' := LB 21 16383) rfl (o_call0 FO70 (strings_Repeat.ok (⟨#[0]⟩ : ByteArray) 64 r27346 hA27347) rfl rfl (ltn rfl) (All_of .nil)) rfl (by kernel_rfl) ?_ ?_
      · rintro _ _ _ ⟨rfl, rfl, rfl⟩
        refine ⟨⟨trivial, ⟨⟨1, rfl⟩, ⟨2, rfl⟩, trivial⟩, trivial⟩, ?_⟩
        refine VA.all [14, 18] (by kernel_rfl) (by simp) <|
         VAll.consC (listed' := LB 21 32767) rfl (o_call0 FO38 (disk_Put.ok k r27339 r27340 ((wrap64 (a1_2 + 1)).tmod 2) r27346 v27343 v27345 r27348 r27349 t27350 hA27351) rfl rfl (ltn rfl) (All_of (.cons (mG 0 rfl) (.cons (mG 1 rfl) .nil)))) rfl (by kernel_rfl) ?_ ?_
        · rintro _ _ _ ⟨v27353, v27355, rfl, rfl, rfl⟩
          refine ⟨⟨trivial, ⟨⟨1, rfl⟩, ⟨2, rfl⟩, trivial⟩, trivial⟩, ?_⟩
          exact VA.more ⟨0, [], [.row v27353 1 (r27348.map enc_str), .row v27355 2 (r27349.map enc55)], [(g27337, 27, [v1_0, v1_1, iv a1_2, iv a1_3, iv a1_4, v1_5, v1_6]), (g27336, 81, [iv a0_0, iv a0_1, .string a0_2])], []⟩ ⟨trivial, ⟨⟨0, rfl⟩, ⟨1, rfl⟩, trivial⟩, trivial⟩ <|
           av 15 65535 rfl (mv rfl) <| av 16 131071 rfl (op_extract rfl rfl) <| av 17 262143 rfl (op_extract rfl rfl) <| aG 18 524287 rfl (o_alloc Z25 ZL25) fun g27356 => aO 19 1048575 rfl (o_store 0 2 rfl rfl rfl TI25 (.agg (.f 0 rfl (.f 1 rfl .nil))) rfl (len rfl)) <| av 20 2097151 rfl (ag rfl) <| ad <|
           VN.meet3 g27356 v27353 v27355 [0, 1] [] trivial
        refine VAll.consG (listed' := LB 21 278527) rfl (o_alloc Z25 ZL25) rfl (by kernel_rfl) (fun _ => ⟨trivial, ⟨⟨2, rfl⟩, ⟨3, rfl⟩, trivial⟩, trivial⟩) ?_ VAll.nil
        intro g27356
        refine aC 14 294911 rfl (o_call0 FO38 (disk_Put.ok k r27339 r27340 ((wrap64 (a1_2 + 1)).tmod 2) r27346 v27343 v27345 r27348 r27349 t27350 hA27351) rfl rfl (ltn rfl) (All_of (.cons (mG 0 rfl) (.cons (mG 1 rfl) .nil)))) <| ?_
        rintro _ _ _ ⟨v27353, v27355, rfl, rfl, rfl⟩
        refine ⟨⟨trivial, ⟨⟨2, rfl⟩, ⟨3, rfl⟩, trivial⟩, trivial⟩, ?_⟩
        exact VA.more ⟨0, [], [.row v27353 1 (r27348.map enc_str), .row v27355 2 (r27349.map enc55)], [(g27337, 27, [v1_0, v1_1, iv a1_2, iv a1_3, iv a1_4, v1_5, v1_6]), (g27336, 81, [iv a0_0, iv a0_1, .string a0_2])], []⟩ ⟨trivial, ⟨⟨0, rfl⟩, ⟨1, rfl⟩, trivial⟩, trivial⟩ <|
         av 15 327679 rfl (mv rfl) <| av 16 393215 rfl (op_extract rfl rfl) <| av 17 524287 rfl (op_extract rfl rfl) <| aO 19 1048575 rfl (o_store 0 2 rfl rfl rfl TI25 (.agg (.f 0 rfl (.f 1 rfl .nil))) rfl (len rfl)) <| av 20 2097151 rfl (ag rfl) <| ad <| VN.meet3 g27356 v27353 v27355 [0, 1] [] trivial
      refine VAll.consG (listed' := LB 21 270335) rfl (o_alloc Z25 ZL25) rfl (by kernel_rfl) (fun _ => ⟨trivial, ⟨⟨2, rfl⟩, ⟨3, rfl⟩, trivial⟩, trivial⟩) ?_ VAll.nil
      intro g27356
      refine aC 13 278527 rfl (o_call0 FO70 (strings_Repeat.ok (⟨#[0]⟩ : ByteArray) 64 r27346 hA27347) rfl rfl (ltn rfl) (All_of .nil)) <| ?_
      rintro _ _ _ ⟨rfl, rfl, rfl⟩
      refine ⟨⟨trivial, ⟨⟨2, rfl⟩, ⟨3, rfl⟩, trivial⟩, trivial⟩, ?_⟩
      refine aC 14 294911 rfl (o_call0 FO38 (disk_Put.ok k r27339 r27340 ((wrap64 (a1_2 + 1)).tmod 2) r27346 v27343 v27345 r27348 r27349 t27350 hA27351) rfl rfl (ltn rfl) (All_of (.cons (mG 0 rfl) (.cons (mG 1 rfl) .nil)))) <| ?_
      rintro _ _ _ ⟨v27353, v27355, rfl, rfl, rfl⟩
      refine ⟨⟨trivial, ⟨⟨2, rfl⟩, ⟨3, rfl⟩, trivial⟩, trivial⟩, ?_⟩
      exact VA.more ⟨0, [], [.row v27353 1 (r27348.map enc_str), .row v27355 2 (r27349.map enc55)], [(g27337, 27, [v1_0, v1_1, iv a1_2, iv a1_3, iv a1_4, v1_5, v1_6]), (g27336, 81, [iv a0_0, iv a0_1, .string a0_2])], []⟩ ⟨trivial, ⟨⟨0, rfl⟩, ⟨1, rfl⟩, trivial⟩, trivial⟩ <|
       av 15 327679 rfl (mv rfl) <| av 16 393215 rfl (op_extract rfl rfl) <| av 17 524287 rfl (op_extract rfl rfl) <| aO 19 1048575 rfl (o_store 0 2 rfl rfl rfl TI25 (.agg (.f 0 rfl (.f 1 rfl .nil))) rfl (len rfl)) <| av 20 2097151 rfl (ag rfl) <| ad <| VN.meet3 g27356 v27353 v27355 [0, 1] [] trivial
    refine VAll.consG (listed' := LB 21 270079) rfl (o_alloc Z25 ZL25) rfl (by kernel_rfl) (fun _ => ⟨trivial, ⟨⟨2, rfl⟩, ⟨3, rfl⟩, trivial⟩, trivial⟩) ?_ VAll.nil
    intro g27356
    refine aC 8 270335 rfl (o_call0 FO72 (journal_laid.ok k l1_0 l1_1 a0_0 a0_1 a0_2 v1_0 v1_1 r27339 r27340 hA27341) rfl rfl (ltn rfl) (All_of (.cons (mG 0 rfl) (.cons (mG 1 rfl) .nil)))) <| ?_
    rintro _ _ _ ⟨v27343, v27345, rfl, rfl, rfl⟩
    refine ⟨⟨trivial, ⟨⟨2, rfl⟩, ⟨3, rfl⟩, trivial⟩, trivial⟩, ?_⟩
    refine aC 13 278527 rfl (o_call0 FO70 (strings_Repeat.ok (⟨#[0]⟩ : ByteArray) 64 r27346 hA27347) rfl rfl (ltn rfl) (All_of .nil)) <| ?_
    rintro _ _ _ ⟨rfl, rfl, rfl⟩
    refine ⟨⟨trivial, ⟨⟨2, rfl⟩, ⟨3, rfl⟩, trivial⟩, trivial⟩, ?_⟩
    refine aC 14 294911 rfl (o_call0 FO38 (disk_Put.ok k r27339 r27340 ((wrap64 (a1_2 + 1)).tmod 2) r27346 v27343 v27345 r27348 r27349 t27350 hA27351) rfl rfl (ltn rfl) (All_of (.cons (mG 0 rfl) (.cons (mG 1 rfl) .nil)))) <| ?_
    rintro _ _ _ ⟨v27353, v27355, rfl, rfl, rfl⟩
    refine ⟨⟨trivial, ⟨⟨2, rfl⟩, ⟨3, rfl⟩, trivial⟩, trivial⟩, ?_⟩
    exact VA.more ⟨0, [], [.row v27353 1 (r27348.map enc_str), .row v27355 2 (r27349.map enc55)], [(g27337, 27, [v1_0, v1_1, iv a1_2, iv a1_3, iv a1_4, v1_5, v1_6]), (g27336, 81, [iv a0_0, iv a0_1, .string a0_2])], []⟩ ⟨trivial, ⟨⟨0, rfl⟩, ⟨1, rfl⟩, trivial⟩, trivial⟩ <|
     av 15 327679 rfl (mv rfl) <| av 16 393215 rfl (op_extract rfl rfl) <| av 17 524287 rfl (op_extract rfl rfl) <| aO 19 1048575 rfl (o_store 0 2 rfl rfl rfl TI25 (.agg (.f 0 rfl (.f 1 rfl .nil))) rfl (len rfl)) <| av 20 2097151 rfl (ag rfl) <| ad <| VN.meet3 g27356 v27353 v27355 [0, 1] [] trivial
  intro g27356 v27353 v27355 _
  refine sr <| va (op_load 0 2 rfl rfl TI25 rfl (fun h => absurd h (by decide))) <| s1 (o_store 1 2 rfl rfl rfl TI25 (.agg (.f 0 rfl (.f 1 rfl .nil))) rfl (len rfl)) <| dt <| VC.ret <| ?_
  simp only [Option.some.injEq, Prod.mk.injEq] at h
  obtain ⟨rfl, rfl⟩ := h
  exact rf [.cell 4 25] [] (.cell 1 rfl rfl TI25 (fun h => absurd h (by decide)) .nil) ⟨v27353, v27355, rfl, rfl, rfl⟩

end Go.Proofs.Ytipeglbeongfmaa.PJournalOpens
