/- Written by a program of this repo: what the program's functions do, each as a Lean function, shown of the loaded code; or a statement's row over that; no condition of its own. -/
import Derived.Test.YtipeglbeongfmaaGreatPJournalCrashesx8
namespace Go.Proofs.YtipeglbeongfmaaGreat.PJournalCrashes
open Go Go.RowKit Go.Proofs.YtipeglbeongfmaaGreatV
set_option linter.unusedVariables false
set_option linter.unusedSimpArgs false
set_option maxHeartbeats 4000000
set_option maxRecDepth 100000

theorem slices_Clip_api_Write_api_Write.ok (l0 : List S71) (v0 : Value) (r1 : List S71) (h : slices_Clip_api_Write_api_Write.f l0 = some r1) :
    VCalls Tryz.prog 76 [v0] [.row v0 2 (l0.map enc71)] (fun v G own => ∃ A : Option Addr, v = .slice A r1.length r1.length ∧ G = [.row (.slice A r1.length r1.length) 2 (r1.map enc71)] ∧ own = []) := by
  obtain rfl := Option.some.inj h
  clear h
  refine VCalls.intro Tryz.func76 rfl (len rfl) fun E hC hW hD hU => ?_
  refine VC.seq (VC.region ?_)
  refine VL.va (op_assign rfl (ltn rfl)) rfl ?_
  refine VL.done (VN.then ?_)
  refine VC.seq (VC.region ?_)
  refine VL.va (op_move rfl (ltn rfl)) rfl ?_
  refine VL.va (op_move rfl (ltn rfl)) rfl ?_
  refine VL.va (op_len (m := l0.length) 0 lenm Tryz.underlying23 rfl rfl (ltn rfl)) rfl ?_
  refine VL.va (op_move rfl (ltn rfl)) rfl ?_
  refine VL.va (op_len (m := l0.length) 0 lenm Tryz.underlying23 rfl rfl (ltn rfl)) rfl ?_
  refine VL.sG (o_clip (m := l0.length) 0 lenm Tryz.underlying23 TI72 rfl rfl rfl rfl (ltn rfl)) rfl ?_
  intro A
  refine VL.va (op_assign rfl (ltn rfl)) rfl ?_
  refine VL.done (VN.then ?_)
  refine VC.ret ?_
  exact VR.fn (rs := [.tmp 2]) [.row (.slice A l0.length l0.length) 2 (l0.map enc71)] [] [] rfl (.tmp rfl .nil) ⟨_, rfl, rfl, rfl⟩ ⟨⟨0, rfl⟩, trivial⟩ rfl (by decide)

theorem disk_Put.ok (k : Nat) (l0_0 : List ByteArray) (l0_1 : List S71) (a1 : Int) (a2 : ByteArray) (v0_0 : Value) (v0_1 : Value) (r1 : List ByteArray) (r2 : List S71) (r3 : Int) (h : disk_Put.f k l0_0 l0_1 a1 a2 = some (r1, r2, r3)) :
    VCalls Tryz.prog 54 [.agg #[v0_0, v0_1], iv a1, .string a2] [.row v0_0 1 (l0_0.map enc_str), .row v0_1 2 (l0_1.map enc71)] (fun v G own => ∃ w0 w1 : Value, v = .tuple #[.agg #[w0, w1], iv r3] ∧ G = [.row w0 1 (r1.map enc_str), .row w1 2 (r2.map enc71)] ∧ own = []) := by
  refine VCalls.intro Tryz.func54 rfl (len rfl) fun E hC hW hD hU => ?_
  unfold disk_Put.f at h
  refine sr <| sG (o_box rfl (.agg (.f 0 rfl (.f 1 rfl .nil)))) fun g7384 => sG (o_alloc Z25 ZL25) fun g7385 => vs rfl <| ds <| VC.block <| sr <| va (op_load 1 2 rfl rfl TI25 rfl (fun h => absurd h (by decide))) <| ?_
  replace h := bd h
  obtain ⟨t7416, hA7417, h⟩ := h
  refine sC (o_call0 FO64 (disk_Right.ok k l0_0 l0_1 v0_0 v0_1 t7416 hA7417) rfl rfl (ltn rfl) (All_of (.cons (mG 0 rfl) (.cons (mG 1 rfl) .nil)))) <| ?_
  rintro _ _ _ ⟨rfl, rfl, rfl⟩
  replace h := iC h
  rcases h with ⟨c7418, h⟩ | ⟨c7418, h⟩
  · obtain rfl := c7418
    refine va (op_not rfl rfl) <| vs rfl <| dt <| cf <| sr <| vm rfl <| VL.letter (decide (a1 < 0)) fun b7422 hb7422 => va (op_cmp rfl rfl (congrArg some hb7422)) <| vm rfl <| ?_
    replace h := iC h
    rcases h with ⟨c7423, h⟩ | ⟨c7423, h⟩
    · cases lT c7423 hb7422
      refine un rfl <| un rfl <| un rfl <| un rfl <| un rfl <| va (op_pick rfl rfl) <| vs rfl <| dt <| ct <| sr <| va (op_build (vals := []) (vcs := []) (cells := [sn, sn]) SI25 rfl .nil (by kernel_rfl)) <| s1 (o_store 0 2 rfl rfl rfl TI25 (.agg (.of rfl)) rfl (len rfl)) <|
       vs rfl <| dt <| VC.ret <| VR.block <| VR.then <| ?_
      simp only [Option.some.injEq, Prod.mk.injEq] at h
      obtain ⟨rfl, rfl, rfl⟩ := h
      exact VR.nilFact' 1 <| VR.nilFact' 2 <| rf [.cell 6 25, .tmp 7] [] (.cell 0 rfl rfl TI25 (fun h => absurd h (by decide)) (.tmp rfl .nil)) ⟨sn, sn, rfl, rfl, rfl⟩
    cases lF c7423 hb7422
    refine vm rfl <| va (op_fieldAddr FI25_0 rfl (add_at _ _ _)) <| va (op_load 1 1 rfl rfl TI22 rfl (by decide)) <| va (op_len (m := l0_0.length) 0 lenm Tryz.underlying22 rfl rfl) <| VL.letter (decide (a1 ≥ (l0_0.length : Int))) fun b7426 hb7426 => va (op_cmp rfl rfl (congrArg some hb7426)) <|
     va (op_pick rfl rfl) <| vs rfl <| dt <| ?_
    replace h := iC h
    rcases h with ⟨c7427, h⟩ | ⟨c7427, h⟩
    · cases lT c7427 hb7426
      refine ct <| sr <| va (op_build (vals := []) (vcs := []) (cells := [sn, sn]) SI25 rfl .nil (by kernel_rfl)) <| s1 (o_store 0 2 rfl rfl rfl TI25 (.agg (.of rfl)) rfl (len rfl)) <| vs rfl <| dt <| VC.ret <| VR.block <| VR.then <| ?_
      simp only [Option.some.injEq, Prod.mk.injEq] at h
      obtain ⟨rfl, rfl, rfl⟩ := h
      exact VR.nilFact' 1 <| VR.nilFact' 2 <| rf [.cell 6 25, .tmp 7] [] (.cell 0 rfl rfl TI25 (fun h => absurd h (by decide)) (.tmp rfl .nil)) ⟨sn, sn, rfl, rfl, rfl⟩
    cases lF c7427 hb7426
    refine cf <| sr <| vm rfl <| va (op_lens Tryz.underlying9 rfl) <| VL.letter (((a2.size : Int) != 64)) fun b7430 hb7430 => va (op_cmp rfl rfl (congrArg some hb7430)) <| vs rfl <| dt <| ?_
    replace h := iC h
    rcases h with ⟨c7431, h⟩ | ⟨c7431, h⟩
    · obtain rfl : b7430 = false := hb7430.symm.trans (bne_eq_false_iff_eq.2 c7431)
      refine cf <| sr <| va (op_fieldAddr FI25_1 rfl (add_at _ _ _)) <| va (op_load 1 1 rfl rfl TI23 rfl (by decide)) <| va (op_len (m := l0_1.length) 1 lenm Tryz.underlying23 rfl rfl) <| VL.letter (((l0_1.length : Int) == 64)) fun b7432 hb7432 => va (op_cmp rfl rfl (congrArg some hb7432)) <| vs rfl <|
       dt <| ?_
      replace h := iC h
      rcases h with ⟨c7433, h⟩ | ⟨c7433, h⟩
      · obtain rfl : b7432 = true := hb7432.symm.trans (beq_iff_eq.2 c7433)
        refine ct <| sr <| va (op_build (vals := []) (vcs := []) (cells := [sn, sn]) SI25 rfl .nil (by kernel_rfl)) <| s1 (o_store 0 2 rfl rfl rfl TI25 (.agg (.of rfl)) rfl (len rfl)) <| vs rfl <| dt <| VC.ret <| VR.block <| VR.then <| ?_
        simp only [Option.some.injEq, Prod.mk.injEq] at h
        obtain ⟨rfl, rfl, rfl⟩ := h
        exact VR.nilFact' 1 <| VR.nilFact' 2 <| rf [.cell 6 25, .tmp 7] [] (.cell 0 rfl rfl TI25 (fun h => absurd h (by decide)) (.tmp rfl .nil)) ⟨sn, sn, rfl, rfl, rfl⟩
      obtain rfl : b7432 = false := hb7432.symm.trans (beq_eq_false_iff_ne.2 c7433)
      refine cf <| VC.skip <| VN.block <| tx <| va (op_fieldAddr FI25_1 rfl (add_at _ _ _)) <| va (op_load 1 1 rfl rfl TI23 rfl (by decide)) <| ?_
      replace h := bd h
      obtain ⟨r7436, hA7437, h⟩ := h
      refine sC (o_call0 FO76 (slices_Clip_api_Write_api_Write.ok l0_1 v0_1 r7436 hA7437) rfl rfl (ltn rfl) (All_of (.cons (mG 1 rfl) .nil))) <| ?_
      rintro _ _ _ ⟨A7438, rfl, rfl, rfl⟩
      refine vm rfl <| vm rfl <| va (op_build (vals := [(0, iv a1), (1, .string a2)]) (vcs := [(0, [iv a1]), (1, [.string a2])]) (cells := [iv a1, .string a2]) SI72 rfl (.cons ⟨rfl, (.c rfl)⟩ (.cons ⟨rfl, (.c rfl)⟩ .nil)) (by kernel_rfl)) <|
       sG (o_buildSlice (vals := [(0, .agg #[iv a1, .string a2])]) (cells := #[iv a1, .string a2]) (es := List.map enc71 ([(⟨a1, a2⟩ : S71)] : List S71)) Tryz.underlying23 TI72 Z72 rfl (by decide) (by decide) (by kernel_rfl) (by kernel_rfl) rfl (flat_map enc71_ok _)) fun v7441 => ?_
      replace h := iN h
      obtain ⟨c7442, h⟩ := h
      refine sG (o_append_clip 0 appm Tryz.underlying23 EI72 rfl rfl rfl (.inr ⟨0, _, rfl⟩) (bndm c7442)) fun v7443 => va (op_fieldAddr FI25_1 rfl (add_at _ _ _)) <| s1 (o_store 1 1 rfl rfl rfl TI23 (.f 0 rfl) rfl (len rfl)) <| nx <| va (op_load 1 2 rfl rfl TI25 rfl (fun h => absurd h (by decide))) <|
       s1 (o_store 0 2 rfl rfl rfl TI25 (.agg (.f 2 rfl (.f 0 rfl .nil))) rfl (len rfl)) <| vs rfl <| dt <| VC.ret <| ?_
      simp only [Option.some.injEq, Prod.mk.injEq] at h
      obtain ⟨rfl, rfl, rfl⟩ := h
      exact rf [.cell 6 25, .tmp 7] [] (.cell 0 rfl rfl TI25 (fun h => absurd h (by decide)) (.tmp rfl .nil)) ⟨v0_0, v7443, rfl, rfl, rfl⟩
    obtain rfl : b7430 = true := hb7430.symm.trans (bne_iff_ne.2 c7431)
    refine ct <| sr <| va (op_build (vals := []) (vcs := []) (cells := [sn, sn]) SI25 rfl .nil (by kernel_rfl)) <| s1 (o_store 0 2 rfl rfl rfl TI25 (.agg (.of rfl)) rfl (len rfl)) <| vs rfl <| dt <| VC.ret <| VR.block <| VR.then <| ?_
    simp only [Option.some.injEq, Prod.mk.injEq] at h
    obtain ⟨rfl, rfl, rfl⟩ := h
    exact VR.nilFact' 1 <| VR.nilFact' 2 <| rf [.cell 6 25, .tmp 7] [] (.cell 0 rfl rfl TI25 (fun h => absurd h (by decide)) (.tmp rfl .nil)) ⟨sn, sn, rfl, rfl, rfl⟩
  obtain rfl := Bool.eq_false_iff.2 c7418
  refine va (op_not rfl rfl) <| vs rfl <| dt <| ct <| sr <| va (op_build (vals := []) (vcs := []) (cells := [sn, sn]) SI25 rfl .nil (by kernel_rfl)) <| s1 (o_store 0 2 rfl rfl rfl TI25 (.agg (.of rfl)) rfl (len rfl)) <| vs rfl <| dt <| VC.ret <| VR.block <| VR.then <| ?_
  simp only [Option.some.injEq, Prod.mk.injEq] at h
  obtain ⟨rfl, rfl, rfl⟩ := h
  exact VR.nilFact' 1 <| VR.nilFact' 2 <| rf [.cell 6 25, .tmp 7] [] (.cell 0 rfl rfl TI25 (fun h => absurd h (by decide)) (.tmp rfl .nil)) ⟨sn, sn, rfl, rfl, rfl⟩

theorem journal_laid.ok (k : Nat) (l0_0 : List ByteArray) (l0_1 : List S71) (a1 : Int) (a2 : Int) (a3 : ByteArray) (v0_0 : Value) (v0_1 : Value) (r1 : List ByteArray) (r2 : List S71) (h : journal_laid.f k l0_0 l0_1 a1 a2 a3 = some (r1, r2)) :
    VCalls Tryz.prog 62 [.agg #[v0_0, v0_1], iv a1, iv a2, .string a3] [.row v0_0 1 (l0_0.map enc_str), .row v0_1 2 (l0_1.map enc71)] (fun v G own => ∃ w0 w1 : Value, v = .agg #[w0, w1] ∧ G = [.row w0 1 (r1.map enc_str), .row w1 2 (r2.map enc71)] ∧ own = []) := by
  refine VCalls.intro Tryz.func62 rfl (len rfl) fun E hC hW hD hU => ?_
  unfold journal_laid.f at h
  refine sr <| sG (o_box rfl (.agg (.f 0 rfl (.f 1 rfl .nil)))) fun g7569 => sG (o_alloc Z25 ZL25) fun g7570 => nx <| va (op_fieldAddr FI25_0 rfl (add_at _ _ _)) <| va (op_load 1 1 rfl rfl TI22 rfl (by decide)) <| va (op_len (m := l0_0.length) 0 lenm Tryz.underlying22 rfl rfl) <| vm rfl <| ?_
  replace h := bd h
  obtain ⟨t7571, hA7572, h⟩ := h
  refine sC (o_call0 FO68 (journal_begin.ok (l0_0.length : Int) a1 t7571 hA7572) rfl rfl (ltn rfl) (All_of .nil)) <| ?_
  rintro _ _ _ ⟨rfl, rfl, rfl⟩
  refine vs rfl <| ds <| VC.block <| VC.loop6 (fun (i7673 : Int) (s7674 : ByteArray) (v7676 : Value) (l7677 : List ByteArray) (v7679 : Value) (l7680 : List S71) => ⟨65, [(2, iv i7673), (3, .string s7674), (4, pt g7569 0), (8, pt g7570 0), (9, iv t7571)], [.row v7676 1 (l7677.map enc_str), .row v7679 2 (l7680.map enc71)], [(g7570, 25, [sn, sn]), (g7569, 25, [v7676, v7679])], []⟩) (fun (ml1 : Nat) (i7673 : Int) (s7674 : ByteArray) (v7676 : Value) (l7677 : List ByteArray) (v7679 : Value) (l7680 : List S71) => journal_laid.l1 k t7571 ml1 i7673 s7674 l7677 l7680 = some (r1, r2)) k a2 a3 v0_0 l0_0 v0_1 l0_1 [0, 1] [] h ⟨rfl, ⟨rfl, rfl, rfl, rfl, rfl, trivial⟩, ⟨⟨0, rfl⟩, ⟨1, rfl⟩, trivial⟩, rfl, by decide, rfl, by decide⟩ (by intros; simp [journal_laid.l1]) <|
   ?_
  clear h
  intro ml1 ihl1 i7673 s7674 v7676 l7677 v7679 l7680 h
  simp only [journal_laid.l1] at h
  refine sq <| sr <| vm rfl <| VL.letter ((s7674 != (⟨#[]⟩ : ByteArray))) fun b7706 hb7706 => va (op_cmps rfl rfl (congrArg some hb7706)) <| dt <| ?_
  replace h := iC h
  rcases h with ⟨c7707, h⟩ | ⟨c7707, h⟩
  · obtain rfl : b7706 = false := hb7706.symm.trans (bne_of_t c7707)
    refine cf <| VC.exit <| VX.then <| VX.then <| VX.hit <| tx <| va (op_load 1 2 rfl rfl TI25 rfl (fun h => absurd h (by decide))) <| s1 (o_store 0 2 rfl rfl rfl TI25 (.agg (.f 0 rfl (.f 1 rfl .nil))) rfl (len rfl)) <| dt <| VC.ret <| ?_
    simp only [Option.some.injEq, Prod.mk.injEq] at h
    obtain ⟨rfl, rfl⟩ := h
    exact rf [.cell 8 25] [] (.cell 0 rfl rfl TI25 (fun h => absurd h (by decide)) .nil) ⟨v7676, v7679, rfl, rfl, rfl⟩
  obtain rfl : b7706 = true := hb7706.symm.trans (bne_of_f c7707)
  refine ct <| sk <| VC.block <| sr <| vm rfl <| vm rfl <| va (op_quo rfl rfl (by decide) rfl) <| va (op_ari64 rfl rfl rfl) <| vm rfl <| va (op_rem rfl rfl (by decide) rfl) <| vs rfl <| vs rfl <| nx <| vm rfl <| va (op_ari64 rfl rfl rfl) <| vm rfl <| va (op_lens Tryz.underlying9 rfl) <|
   va (op_min rfl rfl) <| vs rfl <| nx <| va (op_load 1 2 rfl rfl TI25 rfl (fun h => absurd h (by decide))) <| vm rfl <| ?_
  replace h := bd h
  obtain ⟨⟨t7708, t7709⟩, hA7710, h⟩ := h
  dsimp only at h
  refine sC (o_call0 FO81 (disk_Get.ok k l7677 l7680 (wrap64 (t7571 + (IntKind.i64.wrap (i7673.tdiv 64)))) v7676 v7679 t7708 t7709 hA7710) rfl rfl (ltn rfl) (All_of (.cons (mG 0 rfl) (.cons (mG 1 rfl) .nil)))) <| ?_
  rintro _ _ _ ⟨rfl, rfl, rfl⟩
  refine vm rfl <| va (op_extract rfl rfl) <| va (op_extract rfl rfl) <| vs rfl <| vs rfl <| dt <| ?_
  replace h := iN h
  obtain ⟨c7711, h⟩ := h
  replace h := iN h
  obtain ⟨c7712, h⟩ := h
  replace h := iN h
  obtain ⟨c7713, h⟩ := h
  replace h := iN h
  obtain ⟨c7714, h⟩ := h
  replace h := iN h
  obtain ⟨c7715, h⟩ := h
  replace h := iN h
  obtain ⟨c7716, h⟩ := h
  replace h := iN h
  obtain ⟨c7717, h⟩ := h
  replace h := iN h
  obtain ⟨c7718, h⟩ := h
  replace h := bd h
  obtain ⟨⟨r7719, r7720, t7721⟩, hA7722, h⟩ := h
  dsimp only at h
  refine VC.join2 (fun (v7724 : Value) (v7726 : Value) => ⟨65, [(2, iv i7673), (3, .string s7674), (4, pt g7569 0), (8, pt g7570 0), (9, iv t7571), (10, iv (wrap64 (t7571 + (IntKind.i64.wrap (i7673.tdiv 64))))), (11, iv (i7673.tmod 64)), (12, iv (mn (wrap64 (64 - (i7673.tmod 64))) (s7674.size : Int))), (13, .string t7708), (20, .string s7674), (21, .bool true), (22, iv t7571), (23, iv i7673), (24, iv (IntKind.i64.wrap (i7673.tdiv 64))), (25, iv (wrap64 (t7571 + (IntKind.i64.wrap (i7673.tdiv 64))))), (26, iv i7673), (27, iv (i7673.tmod 64)), (28, iv (i7673.tmod 64)), (29, iv (wrap64 (64 - (i7673.tmod 64)))), (30, .string s7674), (31, iv (s7674.size : Int)), (32, iv (mn (wrap64 (64 - (i7673.tmod 64))) (s7674.size : Int))), (33, .tuple #[.string t7708, iv t7709]), (34, .agg #[v7676, v7679]), (35, iv (wrap64 (t7571 + (IntKind.i64.wrap (i7673.tdiv 64))))), (36, .tuple #[.string t7708, iv t7709]), (37, .string t7708), (38, iv t7709), (39, .tuple #[.agg #[v7724, v7726], iv t7721]), (40, .agg #[v7676, v7679]), (41, iv (wrap64 (t7571 + (IntKind.i64.wrap (i7673.tdiv 64))))), (42, .string t7708), (43, iv (i7673.tmod 64)), (44, .string (t7708.extract 0 ((i7673.tmod 64).toNat))), (45, .string s7674), (46, iv (mn (wrap64 (64 - (i7673.tmod 64))) (s7674.size : Int))), (47, .string (s7674.extract 0 ((mn (wrap64 (64 - (i7673.tmod 64))) (s7674.size : Int)).toNat))), (48, .string ((t7708.extract 0 ((i7673.tmod 64).toNat)) ++ (s7674.extract 0 ((mn (wrap64 (64 - (i7673.tmod 64))) (s7674.size : Int)).toNat)))), (49, .string t7708), (50, iv (i7673.tmod 64)), (51, iv (mn (wrap64 (64 - (i7673.tmod 64))) (s7674.size : Int))), (52, iv (wrap64 ((i7673.tmod 64) + (mn (wrap64 (64 - (i7673.tmod 64))) (s7674.size : Int))))), (53, .string (t7708.extract ((wrap64 ((i7673.tmod 64) + (mn (wrap64 (64 - (i7673.tmod 64))) (s7674.size : Int)))).toNat) t7708.size)), (54, .string (((t7708.extract 0 ((i7673.tmod 64).toNat)) ++ (s7674.extract 0 ((mn (wrap64 (64 - (i7673.tmod 64))) (s7674.size : Int)).toNat))) ++ (t7708.extract ((wrap64 ((i7673.tmod 64) + (mn (wrap64 (64 - (i7673.tmod 64))) (s7674.size : Int)))).toNat) t7708.size))), (55, .tuple #[.agg #[v7724, v7726], iv t7721]), (56, .agg #[v7724, v7726])], [.row v7724 1 (r7719.map enc_str), .row v7726 2 (r7720.map enc71), .row v7676 1 (l7677.map enc_str), .row v7679 2 (l7680.map enc71)], [(g7570, 25, [sn, sn]), (g7569, 25, [v7724, v7726])], []⟩) (fun (v7724 : Value) (v7726 : Value) => True) ?_ ?_
  · refine VC.drawB ⟨0, [], [], [], []⟩ [19] ⟨0, [], [], [(g7569, 25, [v7676, v7679])], []⟩ (by kernel_rfl) rfl (by kernel_rfl) (n := 20) (listed := LB 20 0) <|
     VB.vb (i := 0) (listed' := LB 20 1) rfl (op_load 0 2 rfl rfl TI25 rfl (fun h => absurd h (by decide))) rfl (by kernel_rfl) (by kernel_rfl) (by kernel_rfl) (by kernel_rfl) (by kernel_rfl) (by kernel_rfl) (PartP.on ⟨trivial, trivial, trivial⟩ ⟨trivial, ⟨⟨1, rfl⟩, trivial⟩, trivial⟩) (fun _ _ _ h => h) <|
     bv 1 3 rfl (mv rfl) <| bv 2 7 rfl (mv rfl) <| bv 3 15 rfl (mv rfl) <| bv 4 31 rfl (op_sliceS 0 ((i7673.tmod 64).toNat) Tryz.underlying9 rfl ⟨rfl, ⟨_, _, rfl, c7711, rfl⟩, Nat.zero_le _, tN (a := (i7673.tmod 64)) (b := (t7708.size : Int)) rfl rfl c7712⟩ rfl) <| bv 5 63 rfl (mv rfl) <|
     bv 6 127 rfl (mv rfl) <| bv 7 255 rfl (op_sliceS 0 ((mn (wrap64 (64 - (i7673.tmod 64))) (s7674.size : Int)).toNat) Tryz.underlying9 rfl ⟨rfl, ⟨_, _, rfl, c7713, rfl⟩, Nat.zero_le _, tN (a := (mn (wrap64 (64 - (i7673.tmod 64))) (s7674.size : Int))) (b := (s7674.size : Int)) rfl rfl c7714⟩ rfl) <|
     bv 8 511 rfl (op_adds rfl rfl rfl c7715) <| bv 9 1023 rfl (mv rfl) <| bv 10 2047 rfl (mv rfl) <| bv 11 4095 rfl (mv rfl) <| bv 12 8191 rfl (op_ari64 rfl rfl rfl) <|
     bv 13 16383 rfl (op_sliceS ((wrap64 ((i7673.tmod 64) + (mn (wrap64 (64 - (i7673.tmod 64))) (s7674.size : Int)))).toNat) t7708.size Tryz.underlying9 rfl ⟨⟨_, _, rfl, c7716, rfl⟩, rfl, tN (a := (wrap64 ((i7673.tmod 64) + (mn (wrap64 (64 - (i7673.tmod 64))) (s7674.size : Int))))) (b := (t7708.size : Int)) rfl rfl c7717, Nat.le_refl _⟩ rfl) <|
     bv 14 32767 rfl (op_adds rfl rfl rfl c7718) <|
     VB.oneC (i := 15) (listed' := LB 20 65535) (by kernel_rfl) rfl (o_call0 FO54 (disk_Put.ok k l7677 l7680 (wrap64 (t7571 + (IntKind.i64.wrap (i7673.tdiv 64)))) (((t7708.extract 0 ((i7673.tmod 64).toNat)) ++ (s7674.extract 0 ((mn (wrap64 (64 - (i7673.tmod 64))) (s7674.size : Int)).toNat))) ++ (t7708.extract ((wrap64 ((i7673.tmod 64) + (mn (wrap64 (64 - (i7673.tmod 64))) (s7674.size : Int)))).toNat) t7708.size)) v7676 v7679 r7719 r7720 t7721 hA7722) rfl rfl (ltn rfl) (All_of (.cons (mG 0 rfl) (.cons (mG 1 rfl) .nil)))) rfl (by kernel_rfl) <|
     ?_
    rintro _ _ _ ⟨v7724, v7726, rfl, rfl, rfl⟩
    refine ⟨(PartP.on ⟨trivial, trivial, trivial⟩ ⟨trivial, ⟨⟨1, rfl⟩, trivial⟩, trivial⟩), ?_⟩
    exact VB.more ⟨0, [], [.row v7724 1 (r7719.map enc_str), .row v7726 2 (r7720.map enc71)], [], []⟩ ⟨trivial, trivial, trivial⟩ <| bv 16 131071 rfl (mv rfl) <| bv 17 262143 rfl (op_extract rfl rfl) <| bv 18 524287 rfl (op_extract rfl rfl) <|
     VB.one1 (i := 19) (listed' := LB 20 1048575) (by kernel_rfl) rfl (o_store 1 2 rfl rfl rfl TI25 (.agg (.f 0 rfl (.f 1 rfl .nil))) rfl (len rfl)) rfl (by kernel_rfl) (PartP.off (by kernel_rfl) ⟨⟨⟨0, rfl⟩, ⟨1, rfl⟩, trivial⟩, trivial, trivial⟩) <| VB.done (by kernel_rfl) <|
     VN.meet2 v7724 v7726 [0, 1] [] trivial
  intro v7724 v7726 _
  refine rg <| vm rfl <| vm rfl <| va (op_sliceS ((mn (wrap64 (64 - (i7673.tmod 64))) (s7674.size : Int)).toNat) s7674.size Tryz.underlying9 rfl ⟨⟨_, _, rfl, c7713, rfl⟩, rfl, tN (a := (mn (wrap64 (64 - (i7673.tmod 64))) (s7674.size : Int))) (b := (s7674.size : Int)) rfl rfl c7714, Nat.le_refl _⟩ rfl) <|
   vm rfl <| vm rfl <| va (op_ari64 rfl rfl rfl) <| vs rfl <| vs rfl <| dn <| VN.block <|
   VN.again [0, 1] [] (ihl1 (wrap64 (i7673 + (mn (wrap64 (64 - (i7673.tmod 64))) (s7674.size : Int)))) (s7674.extract ((mn (wrap64 (64 - (i7673.tmod 64))) (s7674.size : Int)).toNat) s7674.size) v7724 r7719 v7726 r7720 h)

def lay_63_ren : Go.Shelf.Ren := ⟨fun | 105 => 63 | 212 => 82 | 99 => 83 | 165 => 84 | 166 => 73 | 170 => 85 | 169 => 74 | 263 => 96 | 264 => 97 | 206 => 98 | 240 => 93 | 241 => 99 | 276 => 104 | 277 => 106 | n => n, fun | 9 => 9 | 3 => 3 | 4 => 4 | 20 => 20 | 0 => 0 | 46 => 117 | 109 => 118 | 5 => 5 | 72 => 102 | 76 => 107 | 51 => 64 | 146 => 133 | 53 => 42 | 148 => 135 | 70 => 100 | 37 => 68 | 75 => 106 | 127 => 128 | 164 => 142 | 80 => 84 | n => n, fun | n => n⟩
theorem lay_63 : Go.Proofs.Lays.n105 Tryz.prog lay_63_ren where
  mixed := by kernel_rfl
  f99 := Tryz.func83.trans (congrArg some (by kernel_rfl))
  f105 := Tryz.func63.trans (congrArg some (by kernel_rfl))
  f165 := Tryz.func84.trans (congrArg some (by kernel_rfl))
  f166 := Tryz.func73.trans (congrArg some (by kernel_rfl))
  f169 := Tryz.func74.trans (congrArg some (by kernel_rfl))
  f170 := Tryz.func85.trans (congrArg some (by kernel_rfl))
  f206 := Tryz.func98.trans (congrArg some (by kernel_rfl))
  f212 := Tryz.func82.trans (congrArg some (by kernel_rfl))
  f240 := Tryz.func93.trans (congrArg some (by kernel_rfl))
  f241 := Tryz.func99.trans (congrArg some (by kernel_rfl))
  f263 := Tryz.func96.trans (congrArg some (by kernel_rfl))
  f264 := Tryz.func97.trans (congrArg some (by kernel_rfl))
  f276 := Tryz.func104.trans (congrArg some (by kernel_rfl))
  f277 := Tryz.func106.trans (congrArg some (by kernel_rfl))
  t0 := Tryz.underlying0
  a0 := Tryz.isAgg0
  z0 := Tryz.sizeOf0
  v0 := Tryz.zeroValue0
  t3 := Tryz.underlying3
  a3 := Tryz.isAgg3
  z3 := Tryz.sizeOf3
  v3 := Tryz.zeroValue3
  t4 := Tryz.underlying4
  a4 := Tryz.isAgg4
  z4 := Tryz.sizeOf4
  v4 := Tryz.zeroValue4
  t5 := Tryz.underlying5
  a5 := Tryz.isAgg5
  z5 := Tryz.sizeOf5
  v5 := Tryz.zeroValue5
  t9 := Tryz.underlying9
  a9 := Tryz.isAgg9
  z9 := Tryz.sizeOf9
  v9 := Tryz.zeroValue9
  t20 := Tryz.underlying20
  a20 := Tryz.isAgg20
  z20 := Tryz.sizeOf20
  v20 := Tryz.zeroValue20
  t37 := Tryz.underlying68
  a37 := Tryz.isAgg68
  z37 := Tryz.sizeOf68
  v37 := Tryz.zeroValue68
  t46 := Tryz.underlying117
  a46 := Tryz.isAgg117
  z46 := Tryz.sizeOf117
  v46 := Tryz.zeroValue117
  t51 := Tryz.underlying64
  a51 := Tryz.isAgg64
  z51 := Tryz.sizeOf64
  v51 := Tryz.zeroValue64
  t53 := Tryz.underlying42
  a53 := Tryz.isAgg42
  z53 := Tryz.sizeOf42
  v53 := Tryz.zeroValue42
  t70 := Tryz.underlying100
  a70 := Tryz.isAgg100
  z70 := Tryz.sizeOf100
  v70 := Tryz.zeroValue100
  t72 := Tryz.underlying102
  a72 := Tryz.isAgg102
  z72 := Tryz.sizeOf102
  v72 := Tryz.zeroValue102
  t75 := Tryz.underlying106
  a75 := Tryz.isAgg106
  z75 := Tryz.sizeOf106
  v75 := Tryz.zeroValue106
  t76 := Tryz.underlying107
  a76 := Tryz.isAgg107
  z76 := Tryz.sizeOf107
  v76 := Tryz.zeroValue107
  t109 := Tryz.underlying118
  a109 := Tryz.isAgg118
  z109 := Tryz.sizeOf118
  v109 := Tryz.zeroValue118
  t127 := Tryz.underlying128
  a127 := Tryz.isAgg128
  z127 := Tryz.sizeOf128
  v127 := Tryz.zeroValue128
  t146 := Tryz.underlying133
  a146 := Tryz.isAgg133
  z146 := Tryz.sizeOf133
  v146 := Tryz.zeroValue133
  t148 := Tryz.underlying135
  a148 := Tryz.isAgg135
  z148 := Tryz.sizeOf135
  v148 := Tryz.zeroValue135
  t164 := Tryz.underlying142
  a164 := Tryz.isAgg142
  z164 := Tryz.sizeOf142
  v164 := Tryz.zeroValue142
theorem lay_63x : Go.Proofs.Builder.Extra Tryz.prog lay_63_ren where
  sizeBuilder := by kernel_rfl
  liesBuilder := by kernel_rfl
  t5 := Tryz.underlying5
  a5 := Tryz.isAgg5
  z5 := Tryz.sizeOf5
  v5 := Tryz.zeroValue5
  infoByte := by kernel_rfl
  cellsByte := by kernel_rfl
  sizeByte := by kernel_rfl
  neB5 := by decide

theorem strings_Repeat.ok (s : ByteArray) (c : Int) (r1 : ByteArray) (h : strings_Repeat.f s c = some r1) :
    VCalls Tryz.prog 63 [.string s, iv c] [] (fun v G own => v = .string r1 ∧ G = [] ∧ own = []) := by
  unfold strings_Repeat.f at h
  by_cases hc : ¬ (0 ≤ c ∧ c ≤ 9223372036854775807 ∧ s.size * c.toNat ≤ 140737488355328)
  · rw [if_neg hc] at h; cases h
  replace hc := Decidable.not_not.1 hc
  rw [if_pos hc] at h
  obtain rfl := Option.some.inj h
  obtain ⟨n, rfl⟩ : ∃ n : Nat, c = (n : Int) := ⟨c.toNat, by omega⟩
  exact VCalls.of fun w => Go.Proofs.Any.strings_Repeat lay_63 lay_63x s n w (by omega) (by simpa using hc.2.2)

theorem journal_plan_first.ok (k : Nat) (a0_0 : Int) (a0_1 : Int) (a0_2 : ByteArray) (l1_0 : List ByteArray) (l1_1 : List S71) (a1_2 : Int) (a1_3 : Int) (a1_4 : Int) (l1_5 : List ByteArray) (l1_6 : List ByteArray) (v1_0 : Value) (v1_1 : Value) (v1_5 : Value) (v1_6 : Value) (r1 : List ByteArray) (r2 : List S71) (h : journal_plan_first.f k a0_0 a0_1 a0_2 l1_0 l1_1 a1_2 a1_3 a1_4 l1_5 l1_6 = some (r1, r2)) :
    VCalls Tryz.prog 38 [.agg #[iv a0_0, iv a0_1, .string a0_2], .agg #[v1_0, v1_1, iv a1_2, iv a1_3, iv a1_4, v1_5, v1_6]] [.row v1_0 1 (l1_0.map enc_str), .row v1_1 2 (l1_1.map enc71), .row v1_5 1 (l1_5.map enc_str), .row v1_6 1 (l1_6.map enc_str)] (fun v G own => ∃ w0 w1 : Value, v = .agg #[w0, w1] ∧ G = [.row w0 1 (r1.map enc_str), .row w1 2 (r2.map enc71)] ∧ own = []) := by
  refine VCalls.intro Tryz.func38 rfl (len rfl) fun E hC hW hD hU => ?_
  unfold journal_plan_first.f at h
  refine sr <| sG (o_box rfl (.agg (.of rfl))) fun g7749 => sG (o_box rfl (.agg (.f 0 rfl (.f 1 rfl (.c rfl (.c rfl (.c rfl (.f 2 rfl (.f 3 rfl .nil))))))))) fun g7750 => sG (o_alloc Z25 ZL25) fun g7751 => dt <| ?_
  replace h := bd h
  obtain ⟨⟨r7752, r7753⟩, hA7754, h⟩ := h
  dsimp only at h
  replace h := bd h
  obtain ⟨r7759, hA7760, h⟩ := h
  replace h := bd h
  obtain ⟨⟨r7761, r7762, t7763⟩, hA7764, h⟩ := h
  dsimp only at h
  refine VC.join3 (fun (g7769 : Nat) (v7766 : Value) (v7768 : Value) => ⟨26, [(4, pt g7751 0), (5, pt g7769 0)], [.row v7766 1 (r7761.map enc_str), .row v7768 2 (r7762.map enc71)], [(g7769, 25, [v7766, v7768]), (g7751, 25, [sn, sn])], []⟩) (fun (g7769 : Nat) (v7766 : Value) (v7768 : Value) => True) ?_ ?_
  · refine dw ⟨0, [], [], [(g7750, 27, [v1_0, v1_1, iv a1_2, iv a1_3, iv a1_4, v1_5, v1_6]), (g7749, 53, [iv a0_0, iv a0_1, .string a0_2])], []⟩ 21 <| av 0 1 rfl (op_fieldAddr FI27_0 rfl (add_at _ _ _)) <|
     av 1 3 rfl (op_load 0 2 rfl rfl TI25 rfl (fun h => absurd h (by decide))) <| av 2 7 rfl (op_fieldAddr FI53_0 rfl (add_at _ _ _)) <| av 3 15 rfl (op_load 1 1 rfl rfl TI3 rfl (by decide)) <| av 4 31 rfl (op_fieldAddr FI53_1 rfl (add_at _ _ _)) <|
     av 5 63 rfl (op_load 1 1 rfl rfl TI3 rfl (by decide)) <| av 6 127 rfl (op_fieldAddr FI53_2 rfl (add_at _ _ _)) <| av 7 255 rfl (op_load 1 1 rfl rfl TI9 rfl (by decide)) <| av 9 767 rfl (op_fieldAddr FI27_1 rfl (add_at _ _ _)) <| av 10 1791 rfl (op_load 0 1 rfl rfl TI3 rfl (by decide)) <|
     av 11 3839 rfl (op_ari64 rfl rfl rfl) <| av 12 7935 rfl (op_rem rfl rfl (by decide) rfl) <| VA.all [8, 18] (by kernel_rfl) (by simp) <|
     VAll.consC (listed' := LB 21 8191) rfl (o_call0 FO62 (journal_laid.ok k l1_0 l1_1 a0_0 a0_1 a0_2 v1_0 v1_1 r7752 r7753 hA7754) rfl rfl (ltn rfl) (All_of (.cons (mG 0 rfl) (.cons (mG 1 rfl) .nil)))) rfl (by kernel_rfl) ?_ ?_
    · rintro _ _ _ ⟨v7756, v7758, rfl, rfl, rfl⟩
      refine ⟨⟨trivial, ⟨⟨1, rfl⟩, ⟨2, rfl⟩, trivial⟩, trivial⟩, ?_⟩
      refine VA.all [13, 18] (by kernel_rfl) (by simp) <| VAll.consC (listed' := LB 21 16383) rfl (o_call0 FO63 (strings_Repeat.ok (⟨#[0]⟩ : ByteArray) 64 r7759 hA7760) rfl rfl (ltn rfl) (All_of .nil)) rfl (by kernel_rfl) ?_ ?_
      · rintro _ _ _ ⟨rfl, rfl, rfl⟩
        refine ⟨⟨trivial, ⟨⟨1, rfl⟩, ⟨2, rfl⟩, trivial⟩, trivial⟩, ?_⟩
        refine VA.all [14, 18] (by kernel_rfl) (by simp) <|
         VAll.consC (listed' := LB 21 32767) rfl (o_call0 FO54 (disk_Put.ok k r7752 r7753 ((wrap64 (a1_2 + 1)).tmod 2) r7759 v7756 v7758 r7761 r7762 t7763 hA7764) rfl rfl (ltn rfl) (All_of (.cons (mG 0 rfl) (.cons (mG 1 rfl) .nil)))) rfl (by kernel_rfl) ?_ ?_
        · rintro _ _ _ ⟨v7766, v7768, rfl, rfl, rfl⟩
          refine ⟨⟨trivial, ⟨⟨1, rfl⟩, ⟨2, rfl⟩, trivial⟩, trivial⟩, ?_⟩
          exact VA.more ⟨0, [], [.row v7766 1 (r7761.map enc_str), .row v7768 2 (r7762.map enc71)], [(g7750, 27, [v1_0, v1_1, iv a1_2, iv a1_3, iv a1_4, v1_5, v1_6]), (g7749, 53, [iv a0_0, iv a0_1, .string a0_2])], []⟩ ⟨trivial, ⟨⟨0, rfl⟩, ⟨1, rfl⟩, trivial⟩, trivial⟩ <|
           av 15 65535 rfl (mv rfl) <| av 16 131071 rfl (op_extract rfl rfl) <| av 17 262143 rfl (op_extract rfl rfl) <| aG 18 524287 rfl (o_alloc Z25 ZL25) fun g7769 => aO 19 1048575 rfl (o_store 0 2 rfl rfl rfl TI25 (.agg (.f 0 rfl (.f 1 rfl .nil))) rfl (len rfl)) <| av 20 2097151 rfl (ag rfl) <| ad <|
           VN.meet3 g7769 v7766 v7768 [0, 1] [] trivial
        refine VAll.consG (listed' := LB 21 278527) rfl (o_alloc Z25 ZL25) rfl (by kernel_rfl) (fun _ => ⟨trivial, ⟨⟨2, rfl⟩, ⟨3, rfl⟩, trivial⟩, trivial⟩) ?_ VAll.nil
        intro g7769
        refine aC 14 294911 rfl (o_call0 FO54 (disk_Put.ok k r7752 r7753 ((wrap64 (a1_2 + 1)).tmod 2) r7759 v7756 v7758 r7761 r7762 t7763 hA7764) rfl rfl (ltn rfl) (All_of (.cons (mG 0 rfl) (.cons (mG 1 rfl) .nil)))) <| ?_
        rintro _ _ _ ⟨v7766, v7768, rfl, rfl, rfl⟩
        refine ⟨⟨trivial, ⟨⟨2, rfl⟩, ⟨3, rfl⟩, trivial⟩, trivial⟩, ?_⟩
        exact VA.more ⟨0, [], [.row v7766 1 (r7761.map enc_str), .row v7768 2 (r7762.map enc71)], [(g7750, 27, [v1_0, v1_1, iv a1_2, iv a1_3, iv a1_4, v1_5, v1_6]), (g7749, 53, [iv a0_0, iv a0_1, .string a0_2])], []⟩ ⟨trivial, ⟨⟨0, rfl⟩, ⟨1, rfl⟩, trivial⟩, trivial⟩ <|
         av 15 327679 rfl (mv rfl) <| av 16 393215 rfl (op_extract rfl rfl) <| av 17 524287 rfl (op_extract rfl rfl) <| aO 19 1048575 rfl (o_store 0 2 rfl rfl rfl TI25 (.agg (.f 0 rfl (.f 1 rfl .nil))) rfl (len rfl)) <| av 20 2097151 rfl (ag rfl) <| ad <| VN.meet3 g7769 v7766 v7768 [0, 1] [] trivial
      refine VAll.consG (listed' := LB 21 270335) rfl (o_alloc Z25 ZL25) rfl (by kernel_rfl) (fun _ => ⟨trivial, ⟨⟨2, rfl⟩, ⟨3, rfl⟩, trivial⟩, trivial⟩) ?_ VAll.nil
      intro g7769
      refine aC 13 278527 rfl (o_call0 FO63 (strings_Repeat.ok (⟨#[0]⟩ : ByteArray) 64 r7759 hA7760) rfl rfl (ltn rfl) (All_of .nil)) <| ?_
      rintro _ _ _ ⟨rfl, rfl, rfl⟩
      refine ⟨⟨trivial, ⟨⟨2, rfl⟩, ⟨3, rfl⟩, trivial⟩, trivial⟩, ?_⟩
      refine aC 14 294911 rfl (o_call0 FO54 (disk_Put.ok k r7752 r7753 ((wrap64 (a1_2 + 1)).tmod 2) r7759 v7756 v7758 r7761 r7762 t7763 hA7764) rfl rfl (ltn rfl) (All_of (.cons (mG 0 rfl) (.cons (mG 1 rfl) .nil)))) <| ?_
      rintro _ _ _ ⟨v7766, v7768, rfl, rfl, rfl⟩
      refine ⟨⟨trivial, ⟨⟨2, rfl⟩, ⟨3, rfl⟩, trivial⟩, trivial⟩, ?_⟩
      exact VA.more ⟨0, [], [.row v7766 1 (r7761.map enc_str), .row v7768 2 (r7762.map enc71)], [(g7750, 27, [v1_0, v1_1, iv a1_2, iv a1_3, iv a1_4, v1_5, v1_6]), (g7749, 53, [iv a0_0, iv a0_1, .string a0_2])], []⟩ ⟨trivial, ⟨⟨0, rfl⟩, ⟨1, rfl⟩, trivial⟩, trivial⟩ <|
       av 15 327679 rfl (mv rfl) <| av 16 393215 rfl (op_extract rfl rfl) <| av 17 524287 rfl (op_extract rfl rfl) <| aO 19 1048575 rfl (o_store 0 2 rfl rfl rfl TI25 (.agg (.f 0 rfl (.f 1 rfl .nil))) rfl (len rfl)) <| av 20 2097151 rfl (ag rfl) <| ad <| VN.meet3 g7769 v7766 v7768 [0, 1] [] trivial
    refine VAll.consG (listed' := LB 21 270079) rfl (o_alloc Z25 ZL25) rfl (by kernel_rfl) (fun _ => ⟨trivial, ⟨⟨2, rfl⟩, ⟨3, rfl⟩, trivial⟩, trivial⟩) ?_ VAll.nil
    intro g7769
    refine aC 8 270335 rfl (o_call0 FO62 (journal_laid.ok k l1_0 l1_1 a0_0 a0_1 a0_2 v1_0 v1_1 r7752 r7753 hA7754) rfl rfl (ltn rfl) (All_of (.cons (mG 0 rfl) (.cons (mG 1 rfl) .nil)))) <| ?_
    rintro _ _ _ ⟨v7756, v7758, rfl, rfl, rfl⟩
    refine ⟨⟨trivial, ⟨⟨2, rfl⟩, ⟨3, rfl⟩, trivial⟩, trivial⟩, ?_⟩
    refine aC 13 278527 rfl (o_call0 FO63 (strings_Repeat.ok (⟨#[0]⟩ : ByteArray) 64 r7759 hA7760) rfl rfl (ltn rfl) (All_of .nil)) <| ?_
    rintro _ _ _ ⟨rfl, rfl, rfl⟩
    refine ⟨⟨trivial, ⟨⟨2, rfl⟩, ⟨3, rfl⟩, trivial⟩, trivial⟩, ?_⟩
    refine aC 14 294911 rfl (o_call0 FO54 (disk_Put.ok k r7752 r7753 ((wrap64 (a1_2 + 1)).tmod 2) r7759 v7756 v7758 r7761 r7762 t7763 hA7764) rfl rfl (ltn rfl) (All_of (.cons (mG 0 rfl) (.cons (mG 1 rfl) .nil)))) <| ?_
    rintro _ _ _ ⟨v7766, v7768, rfl, rfl, rfl⟩
    refine ⟨⟨trivial, ⟨⟨2, rfl⟩, ⟨3, rfl⟩, trivial⟩, trivial⟩, ?_⟩
    exact VA.more ⟨0, [], [.row v7766 1 (r7761.map enc_str), .row v7768 2 (r7762.map enc71)], [(g7750, 27, [v1_0, v1_1, iv a1_2, iv a1_3, iv a1_4, v1_5, v1_6]), (g7749, 53, [iv a0_0, iv a0_1, .string a0_2])], []⟩ ⟨trivial, ⟨⟨0, rfl⟩, ⟨1, rfl⟩, trivial⟩, trivial⟩ <|
     av 15 327679 rfl (mv rfl) <| av 16 393215 rfl (op_extract rfl rfl) <| av 17 524287 rfl (op_extract rfl rfl) <| aO 19 1048575 rfl (o_store 0 2 rfl rfl rfl TI25 (.agg (.f 0 rfl (.f 1 rfl .nil))) rfl (len rfl)) <| av 20 2097151 rfl (ag rfl) <| ad <| VN.meet3 g7769 v7766 v7768 [0, 1] [] trivial
  intro g7769 v7766 v7768 _
  refine sr <| va (op_load 0 2 rfl rfl TI25 rfl (fun h => absurd h (by decide))) <| s1 (o_store 1 2 rfl rfl rfl TI25 (.agg (.f 0 rfl (.f 1 rfl .nil))) rfl (len rfl)) <| dt <| VC.ret <| ?_
  simp only [Option.some.injEq, Prod.mk.injEq] at h
  obtain ⟨rfl, rfl⟩ := h
  exact rf [.cell 4 25] [] (.cell 1 rfl rfl TI25 (fun h => absurd h (by decide)) .nil) ⟨v7766, v7768, rfl, rfl, rfl⟩

theorem slices_Clone_string_string.ok (l0 : List ByteArray) (v0 : Value) (r1 : List ByteArray) (h : slices_Clone_string_string.f l0 = some r1) :
    VCalls Tryz.prog 65 [v0] [.row v0 1 (l0.map enc_str)] (fun v G own => ∃ w0 : Value, v = w0 ∧ G = [] ∧ own = [(w0, 9, 1, r1.map enc_str)]) := by
  unfold slices_Clone_string_string.f at h
  by_cases hc : ¬ (l0.length * 16 ≤ 140737488355328)
  · rw [if_neg hc] at h; cases h
  replace hc := Decidable.not_not.1 hc
  rw [if_pos hc] at h
  obtain rfl := Option.some.inj h
  clear h
  refine VCalls.intro Tryz.func65 rfl (len rfl) fun E hC hW hD hU => ?_
  refine VC.formF 0 rfl fun A cap hv h1 h2 h3 => ?_
  rw [lenm] at hv h1 h3
  subst hv
  refine VC.seq (VC.region ?_)
  refine VL.va (op_assign rfl (ltn rfl)) rfl ?_
  refine VL.done (VN.then ?_)
  refine VC.seq ?_
  refine VC.seq (VC.region ?_)
  refine VL.va (op_move rfl (ltn rfl)) rfl ?_
  refine VL.va (op_isnil Tryz.underlying22 rfl rfl (ltn rfl)) rfl ?_
  refine VL.done (VN.then ?_)
  cases A with
  | none =>
    have e : l0 = [] := List.eq_nil_of_length_eq_zero (h3 rfl)
    subst e
    refine VC.cond_t rfl ?_
    refine VC.seq (VC.region ?_)
    refine VL.va (op_assign rfl (ltn rfl)) rfl ?_
    refine VL.done (VN.then ?_)
    refine VC.ret (VR.then ?_)
    refine VR.nilRow' 9 1 ?_
    exact VR.fn (rs := [.tmp 2]) [] [(sn, 9, 1, [])] [0] rfl (.tmp rfl .nil) ⟨_, rfl, rfl, rfl⟩ trivial rfl (by decide)
  | some ad =>
    refine VC.cond_f rfl (VC.skip (VN.then ?_))
    refine VC.seq (VC.region ?_)
    refine VL.sG (o_buildSlice (vals := []) (cells := #[]) (es := List.map enc_str ([] : List ByteArray)) Tryz.underlying22 TI9 Z9 rfl (by decide) (by decide) (by kernel_rfl) rfl rfl (flat_map enc_str_ok _) (ltn rfl)) rfl ?_
    intro v1
    refine VL.va (op_move rfl (ltn rfl)) rfl ?_
    refine VL.sG (o_append (es3 := l0.map enc_str) 0 rfl Tryz.underlying22 EI9 rfl rfl rfl (.inl ⟨0, rfl⟩) (by rw [lenm, lenm]; simpa using hc) (ltn rfl)) rfl ?_
    intro v2
    refine VL.va (op_assign rfl (ltn rfl)) rfl ?_
    refine VL.done (VN.then ?_)
    refine VC.ret ?_
    exact VR.fn (rs := [.tmp 2]) [] [(v2, 9, 1, l0.map enc_str)] [0] rfl (.tmp rfl .nil) ⟨_, rfl, rfl, rfl⟩ trivial rfl (by decide)

end Go.Proofs.YtipeglbeongfmaaGreat.PJournalCrashes
