/- Written by a program of this repo: what the program's functions do, each as a Lean function, shown of the loaded code; or a statement's row over that; no condition of its own. -/
import Derived.Test.YtipeglbeongfmaaPJournalKeepsx8
namespace Go.Proofs.Ytipeglbeongfmaa.PJournalKeeps
open Go Go.RowKit Go.Proofs.YtipeglbeongfmaaV
set_option linter.unusedVariables false
set_option linter.unusedSimpArgs false
set_option maxHeartbeats 4000000
set_option maxRecDepth 100000

theorem slices_Clip_api_Write_api_Write.ok (l0 : List S55) (v0 : Value) (r1 : List S55) (h : slices_Clip_api_Write_api_Write.f l0 = some r1) :
    VCalls Try.prog 71 [v0] [.row v0 2 (l0.map enc55)] (fun v G own => ∃ A : Option Addr, v = .slice A r1.length r1.length ∧ G = [.row (.slice A r1.length r1.length) 2 (r1.map enc55)] ∧ own = []) := by
  obtain rfl := Option.some.inj h
  clear h
  refine VCalls.intro Try.func71 rfl (len rfl) fun E hC hW hD hU => ?_
  refine VC.seq (VC.region ?_)
  refine VL.va (op_assign rfl (ltn rfl)) rfl ?_
  refine VL.done (VN.then ?_)
  refine VC.seq (VC.region ?_)
  refine VL.va (op_move rfl (ltn rfl)) rfl ?_
  refine VL.va (op_move rfl (ltn rfl)) rfl ?_
  refine VL.va (op_len (m := l0.length) 0 lenm Try.underlying23 rfl rfl (ltn rfl)) rfl ?_
  refine VL.va (op_move rfl (ltn rfl)) rfl ?_
  refine VL.va (op_len (m := l0.length) 0 lenm Try.underlying23 rfl rfl (ltn rfl)) rfl ?_
  refine VL.sG (o_clip (m := l0.length) 0 lenm Try.underlying23 TI56 rfl rfl rfl rfl (ltn rfl)) rfl ?_
  intro A
  refine VL.va (op_assign rfl (ltn rfl)) rfl ?_
  refine VL.done (VN.then ?_)
  refine VC.ret ?_
  exact VR.fn (rs := [.tmp 2]) [.row (.slice A l0.length l0.length) 2 (l0.map enc55)] [] [] rfl (.tmp rfl .nil) ⟨_, rfl, rfl, rfl⟩ ⟨⟨0, rfl⟩, trivial⟩ rfl (by decide)

theorem disk_Put.ok (k : Nat) (l0_0 : List ByteArray) (l0_1 : List S55) (a1 : Int) (a2 : ByteArray) (v0_0 : Value) (v0_1 : Value) (r1 : List ByteArray) (r2 : List S55) (r3 : Int) (h : disk_Put.f k l0_0 l0_1 a1 a2 = some (r1, r2, r3)) :
    VCalls Try.prog 38 [.agg #[v0_0, v0_1], .int .i64 a1, .string a2] [.row v0_0 1 (l0_0.map enc_str), .row v0_1 2 (l0_1.map enc55)] (fun v G own => ∃ w0 w1 : Value, v = .tuple #[.agg #[w0, w1], .int .i64 r3] ∧ G = [.row w0 1 (r1.map enc_str), .row w1 2 (r2.map enc55)] ∧ own = []) := by
  refine VCalls.intro Try.func38 rfl (len rfl) fun E hC hW hD hU => ?_
  unfold disk_Put.f at h
  refine sr <| sG (o_box rfl (.agg (.f 0 rfl (.f 1 rfl .nil)))) fun g7386 => sG (o_alloc Z25 ZL25) fun g7387 => vs rfl <| ds <| VC.block <| sr <| va (op_load 1 2 rfl rfl TI25 rfl (fun h => absurd h (by decide))) <| ?_
  replace h := bd h
  obtain ⟨t7418, hA7419, h⟩ := h
  refine sC (o_call0 FO23 (disk_Right.ok k l0_0 l0_1 v0_0 v0_1 t7418 hA7419) rfl rfl (ltn rfl) (All_of (.cons (mG 0 rfl) (.cons (mG 1 rfl) .nil)))) <| ?_
  rintro _ _ _ ⟨rfl, rfl, rfl⟩
  replace h := iC h
  rcases h with ⟨c7420, h⟩ | ⟨c7420, h⟩
  · obtain rfl := c7420
    refine va (op_not rfl rfl) <| vs rfl <| dt <| cf <| sr <| vm rfl <| VL.letter (decide (a1 < 0)) fun b7424 hb7424 => va (op_cmp rfl rfl (congrArg some hb7424)) <| vm rfl <| ?_
    replace h := iC h
    rcases h with ⟨c7425, h⟩ | ⟨c7425, h⟩
    · cases lT c7425 hb7424
      refine un rfl <| un rfl <| un rfl <| un rfl <| un rfl <| va (op_pick rfl rfl) <| vs rfl <| dt <| ct <| sr <| va (op_build (vals := []) (vcs := []) (cells := [.slice none 0 0, .slice none 0 0]) SI25 rfl .nil (by kernel_rfl)) <| s1 (o_store 0 2 rfl rfl rfl TI25 (.agg (.of rfl)) rfl (len rfl)) <|
       vs rfl <| dt <| VC.ret <| VR.block <| VR.then <| ?_
      simp only [Option.some.injEq, Prod.mk.injEq] at h
      obtain ⟨rfl, rfl, rfl⟩ := h
      exact VR.nilFact' 1 <| VR.nilFact' 2 <| VR.fn (rs := [.cell 6 25, .tmp 7]) [.row (.slice none 0 0) 1 (([] : List ByteArray).map enc_str), .row (.slice none 0 0) 2 (([] : List S55).map enc55)] [] [] rfl (.cell 0 rfl rfl TI25 (fun h => absurd h (by decide)) (.tmp rfl .nil)) ⟨(.slice none 0 0), (.slice none 0 0), rfl, rfl, rfl⟩ ⟨⟨1, rfl⟩, ⟨0, rfl⟩, trivial⟩ rfl (by decide)
    cases lF c7425 hb7424
    refine vm rfl <| va (op_fieldAddr FI25_0 rfl (add_at _ _ _)) <| va (op_load 1 1 rfl rfl TI22 rfl (by decide)) <| va (op_len (m := l0_0.length) 0 lenm Try.underlying22 rfl rfl) <| VL.letter (decide (a1 ≥ (l0_0.length : Int))) fun b7428 hb7428 => va (op_cmp rfl rfl (congrArg some hb7428)) <|
     va (op_pick rfl rfl) <| vs rfl <| dt <| ?_
    replace h := iC h
    rcases h with ⟨c7429, h⟩ | ⟨c7429, h⟩
    · cases lT c7429 hb7428
      refine ct <| sr <| va (op_build (vals := []) (vcs := []) (cells := [.slice none 0 0, .slice none 0 0]) SI25 rfl .nil (by kernel_rfl)) <| s1 (o_store 0 2 rfl rfl rfl TI25 (.agg (.of rfl)) rfl (len rfl)) <| vs rfl <| dt <| VC.ret <| VR.block <| VR.then <| ?_
      simp only [Option.some.injEq, Prod.mk.injEq] at h
      obtain ⟨rfl, rfl, rfl⟩ := h
      exact VR.nilFact' 1 <| VR.nilFact' 2 <| VR.fn (rs := [.cell 6 25, .tmp 7]) [.row (.slice none 0 0) 1 (([] : List ByteArray).map enc_str), .row (.slice none 0 0) 2 (([] : List S55).map enc55)] [] [] rfl (.cell 0 rfl rfl TI25 (fun h => absurd h (by decide)) (.tmp rfl .nil)) ⟨(.slice none 0 0), (.slice none 0 0), rfl, rfl, rfl⟩ ⟨⟨1, rfl⟩, ⟨0, rfl⟩, trivial⟩ rfl (by decide)
    cases lF c7429 hb7428
    refine cf <| sr <| vm rfl <| va (op_lens Try.underlying9 rfl) <| VL.letter (((a2.size : Int) != 64)) fun b7432 hb7432 => va (op_cmp rfl rfl (congrArg some hb7432)) <| vs rfl <| dt <| ?_
    replace h := iC h
    rcases h with ⟨c7433, h⟩ | ⟨c7433, h⟩
    · obtain rfl : b7432 = false := hb7432.symm.trans (bne_eq_false_iff_eq.2 c7433)
      refine cf <| sr <| va (op_fieldAddr FI25_1 rfl (add_at _ _ _)) <| va (op_load 1 1 rfl rfl TI23 rfl (by decide)) <| va (op_len (m := l0_1.length) 1 lenm Try.underlying23 rfl rfl) <| VL.letter (((l0_1.length : Int) == 64)) fun b7434 hb7434 => va (op_cmp rfl rfl (congrArg some hb7434)) <| vs rfl <|
       dt <| ?_
      replace h := iC h
      rcases h with ⟨c7435, h⟩ | ⟨c7435, h⟩
      · obtain rfl : b7434 = true := hb7434.symm.trans (beq_iff_eq.2 c7435)
        refine ct <| sr <| va (op_build (vals := []) (vcs := []) (cells := [.slice none 0 0, .slice none 0 0]) SI25 rfl .nil (by kernel_rfl)) <| s1 (o_store 0 2 rfl rfl rfl TI25 (.agg (.of rfl)) rfl (len rfl)) <| vs rfl <| dt <| VC.ret <| VR.block <| VR.then <| ?_
        simp only [Option.some.injEq, Prod.mk.injEq] at h
        obtain ⟨rfl, rfl, rfl⟩ := h
        exact VR.nilFact' 1 <| VR.nilFact' 2 <| VR.fn (rs := [.cell 6 25, .tmp 7]) [.row (.slice none 0 0) 1 (([] : List ByteArray).map enc_str), .row (.slice none 0 0) 2 (([] : List S55).map enc55)] [] [] rfl (.cell 0 rfl rfl TI25 (fun h => absurd h (by decide)) (.tmp rfl .nil)) ⟨(.slice none 0 0), (.slice none 0 0), rfl, rfl, rfl⟩ ⟨⟨1, rfl⟩, ⟨0, rfl⟩, trivial⟩ rfl (by decide)
      obtain rfl : b7434 = false := hb7434.symm.trans (beq_eq_false_iff_ne.2 c7435)
      refine cf <| VC.skip <| VN.block <| tx <| va (op_fieldAddr FI25_1 rfl (add_at _ _ _)) <| va (op_load 1 1 rfl rfl TI23 rfl (by decide)) <| ?_
      replace h := bd h
      obtain ⟨r7438, hA7439, h⟩ := h
      refine sC (o_call0 FO71 (slices_Clip_api_Write_api_Write.ok l0_1 v0_1 r7438 hA7439) rfl rfl (ltn rfl) (All_of (.cons (mG 1 rfl) .nil))) <| ?_
      rintro _ _ _ ⟨A7440, rfl, rfl, rfl⟩
      refine vm rfl <| vm rfl <| va (op_build (vals := [(0, .int .i64 a1), (1, .string a2)]) (vcs := [(0, [.int .i64 a1]), (1, [.string a2])]) (cells := [.int .i64 a1, .string a2]) SI56 rfl (.cons ⟨rfl, (.c rfl)⟩ (.cons ⟨rfl, (.c rfl)⟩ .nil)) (by kernel_rfl)) <|
       sG (o_buildSlice (vals := [(0, .agg #[.int .i64 a1, .string a2])]) (cells := #[.int .i64 a1, .string a2]) (es := List.map enc55 ([(⟨a1, a2⟩ : S55)] : List S55)) Try.underlying23 TI56 Z56 rfl (by decide) (by decide) (by kernel_rfl) (by kernel_rfl) rfl (flat_map enc55_ok _)) fun v7443 => ?_
      replace h := iN h
      obtain ⟨c7444, h⟩ := h
      refine sG (o_append_clip 0 appm Try.underlying23 EI56 rfl rfl rfl (.inr ⟨0, _, rfl⟩) (bndm c7444)) fun v7445 => va (op_fieldAddr FI25_1 rfl (add_at _ _ _)) <| s1 (o_store 1 1 rfl rfl rfl TI23 (.f 0 rfl) rfl (len rfl)) <| nx <| va (op_load 1 2 rfl rfl TI25 rfl (fun h => absurd h (by decide))) <|
       s1 (o_store 0 2 rfl rfl rfl TI25 (.agg (.f 2 rfl (.f 0 rfl .nil))) rfl (len rfl)) <| vs rfl <| dt <| VC.ret <| ?_
      simp only [Option.some.injEq, Prod.mk.injEq] at h
      obtain ⟨rfl, rfl, rfl⟩ := h
      exact VR.fn (rs := [.cell 6 25, .tmp 7]) [.row v0_0 1 (l0_0.map enc_str), .row v7445 2 ((r7438 ++ ([(⟨a1, a2⟩ : S55)] : List S55)).map enc55)] [] [] rfl (.cell 0 rfl rfl TI25 (fun h => absurd h (by decide)) (.tmp rfl .nil)) ⟨v0_0, v7445, rfl, rfl, rfl⟩ ⟨⟨2, rfl⟩, ⟨0, rfl⟩, trivial⟩ rfl (by decide)
    obtain rfl : b7432 = true := hb7432.symm.trans (bne_iff_ne.2 c7433)
    refine ct <| sr <| va (op_build (vals := []) (vcs := []) (cells := [.slice none 0 0, .slice none 0 0]) SI25 rfl .nil (by kernel_rfl)) <| s1 (o_store 0 2 rfl rfl rfl TI25 (.agg (.of rfl)) rfl (len rfl)) <| vs rfl <| dt <| VC.ret <| VR.block <| VR.then <| ?_
    simp only [Option.some.injEq, Prod.mk.injEq] at h
    obtain ⟨rfl, rfl, rfl⟩ := h
    exact VR.nilFact' 1 <| VR.nilFact' 2 <| VR.fn (rs := [.cell 6 25, .tmp 7]) [.row (.slice none 0 0) 1 (([] : List ByteArray).map enc_str), .row (.slice none 0 0) 2 (([] : List S55).map enc55)] [] [] rfl (.cell 0 rfl rfl TI25 (fun h => absurd h (by decide)) (.tmp rfl .nil)) ⟨(.slice none 0 0), (.slice none 0 0), rfl, rfl, rfl⟩ ⟨⟨1, rfl⟩, ⟨0, rfl⟩, trivial⟩ rfl (by decide)
  obtain rfl := Bool.eq_false_iff.2 c7420
  refine va (op_not rfl rfl) <| vs rfl <| dt <| ct <| sr <| va (op_build (vals := []) (vcs := []) (cells := [.slice none 0 0, .slice none 0 0]) SI25 rfl .nil (by kernel_rfl)) <| s1 (o_store 0 2 rfl rfl rfl TI25 (.agg (.of rfl)) rfl (len rfl)) <| vs rfl <| dt <| VC.ret <| VR.block <| VR.then <| ?_
  simp only [Option.some.injEq, Prod.mk.injEq] at h
  obtain ⟨rfl, rfl, rfl⟩ := h
  exact VR.nilFact' 1 <| VR.nilFact' 2 <| VR.fn (rs := [.cell 6 25, .tmp 7]) [.row (.slice none 0 0) 1 (([] : List ByteArray).map enc_str), .row (.slice none 0 0) 2 (([] : List S55).map enc55)] [] [] rfl (.cell 0 rfl rfl TI25 (fun h => absurd h (by decide)) (.tmp rfl .nil)) ⟨(.slice none 0 0), (.slice none 0 0), rfl, rfl, rfl⟩ ⟨⟨1, rfl⟩, ⟨0, rfl⟩, trivial⟩ rfl (by decide)

theorem journal_laid.ok (k : Nat) (l0_0 : List ByteArray) (l0_1 : List S55) (a1 : Int) (a2 : Int) (a3 : ByteArray) (v0_0 : Value) (v0_1 : Value) (r1 : List ByteArray) (r2 : List S55) (h : journal_laid.f k l0_0 l0_1 a1 a2 a3 = some (r1, r2)) :
    VCalls Try.prog 72 [.agg #[v0_0, v0_1], .int .i64 a1, .int .i64 a2, .string a3] [.row v0_0 1 (l0_0.map enc_str), .row v0_1 2 (l0_1.map enc55)] (fun v G own => ∃ w0 w1 : Value, v = .agg #[w0, w1] ∧ G = [.row w0 1 (r1.map enc_str), .row w1 2 (r2.map enc55)] ∧ own = []) := by
  refine VCalls.intro Try.func72 rfl (len rfl) fun E hC hW hD hU => ?_
  unfold journal_laid.f at h
  refine sr <| sG (o_box rfl (.agg (.f 0 rfl (.f 1 rfl .nil)))) fun g7571 => sG (o_alloc Z25 ZL25) fun g7572 => nx <| va (op_fieldAddr FI25_0 rfl (add_at _ _ _)) <| va (op_load 1 1 rfl rfl TI22 rfl (by decide)) <| va (op_len (m := l0_0.length) 0 lenm Try.underlying22 rfl rfl) <| vm rfl <| ?_
  replace h := bd h
  obtain ⟨t7573, hA7574, h⟩ := h
  refine sC (o_call0 FO25 (journal_begin.ok (l0_0.length : Int) a1 t7573 hA7574) rfl rfl (ltn rfl) (All_of .nil)) <| ?_
  rintro _ _ _ ⟨rfl, rfl, rfl⟩
  refine vs rfl <| ds <| VC.block <| VC.loop6 (fun (i7675 : Int) (s7676 : ByteArray) (v7678 : Value) (l7679 : List ByteArray) (v7681 : Value) (l7682 : List S55) => ⟨65, [(2, .int .i64 i7675), (3, .string s7676), (4, .pointer (some ⟨g7571, 0, none⟩)), (8, .pointer (some ⟨g7572, 0, none⟩)), (9, .int .i64 t7573)], [.row v7678 1 (l7679.map enc_str), .row v7681 2 (l7682.map enc55)], [(g7572, 25, [.slice none 0 0, .slice none 0 0]), (g7571, 25, [v7678, v7681])], []⟩) (fun (ml1 : Nat) (i7675 : Int) (s7676 : ByteArray) (v7678 : Value) (l7679 : List ByteArray) (v7681 : Value) (l7682 : List S55) => journal_laid.l1 k t7573 ml1 i7675 s7676 l7679 l7682 = some (r1, r2)) k a2 a3 v0_0 l0_0 v0_1 l0_1 [0, 1] [] h ⟨rfl, ⟨rfl, rfl, rfl, rfl, rfl, trivial⟩, ⟨⟨0, rfl⟩, ⟨1, rfl⟩, trivial⟩, rfl, by decide, rfl, by decide⟩ (by intros; simp [journal_laid.l1]) <|
   ?_
  clear h
  intro ml1 ihl1 i7675 s7676 v7678 l7679 v7681 l7682 h
  simp only [journal_laid.l1] at h
  refine sq <| sr <| vm rfl <| VL.letter ((s7676 != (⟨#[]⟩ : ByteArray))) fun b7708 hb7708 => va (op_cmps rfl rfl (congrArg some hb7708)) <| dt <| ?_
  replace h := iC h
  rcases h with ⟨c7709, h⟩ | ⟨c7709, h⟩
  · obtain rfl : b7708 = false := hb7708.symm.trans (bne_of_t c7709)
    refine cf <| VC.exit <| VX.then <| VX.then <| VX.hit <| tx <| va (op_load 1 2 rfl rfl TI25 rfl (fun h => absurd h (by decide))) <| s1 (o_store 0 2 rfl rfl rfl TI25 (.agg (.f 0 rfl (.f 1 rfl .nil))) rfl (len rfl)) <| dt <| VC.ret <| ?_
    simp only [Option.some.injEq, Prod.mk.injEq] at h
    obtain ⟨rfl, rfl⟩ := h
    exact VR.fn (rs := [.cell 8 25]) [.row v7678 1 (l7679.map enc_str), .row v7681 2 (l7682.map enc55)] [] [] rfl (.cell 0 rfl rfl TI25 (fun h => absurd h (by decide)) .nil) ⟨v7678, v7681, rfl, rfl, rfl⟩ ⟨⟨0, rfl⟩, ⟨1, rfl⟩, trivial⟩ rfl (by decide)
  obtain rfl : b7708 = true := hb7708.symm.trans (bne_of_f c7709)
  refine ct <| sk <| VC.block <| sr <| vm rfl <| vm rfl <| va (op_quo rfl rfl (by decide) rfl) <| va (op_ari64 rfl rfl rfl) <| vm rfl <| va (op_rem rfl rfl (by decide) rfl) <| vs rfl <| vs rfl <| nx <| vm rfl <| va (op_ari64 rfl rfl rfl) <| vm rfl <| va (op_lens Try.underlying9 rfl) <|
   va (op_min rfl rfl) <| vs rfl <| nx <| va (op_load 1 2 rfl rfl TI25 rfl (fun h => absurd h (by decide))) <| vm rfl <| ?_
  replace h := bd h
  obtain ⟨⟨t7710, t7711⟩, hA7712, h⟩ := h
  dsimp only at h
  refine sC (o_call0 FO86 (disk_Get.ok k l7679 l7682 (wrap64 (t7573 + (IntKind.i64.wrap (i7675.tdiv 64)))) v7678 v7681 t7710 t7711 hA7712) rfl rfl (ltn rfl) (All_of (.cons (mG 0 rfl) (.cons (mG 1 rfl) .nil)))) <| ?_
  rintro _ _ _ ⟨rfl, rfl, rfl⟩
  refine vm rfl <| va (op_extract rfl rfl) <| va (op_extract rfl rfl) <| vs rfl <| vs rfl <| dt <| ?_
  replace h := iN h
  obtain ⟨c7713, h⟩ := h
  replace h := iN h
  obtain ⟨c7714, h⟩ := h
  replace h := iN h
  obtain ⟨c7715, h⟩ := h
  replace h := iN h
  obtain ⟨c7716, h⟩ := h
  replace h := iN h
  obtain ⟨c7717, h⟩ := h
  replace h := iN h
  obtain ⟨c7718, h⟩ := h
  replace h := iN h
  obtain ⟨c7719, h⟩ := h
  replace h := iN h
  obtain ⟨c7720, h⟩ := h
  replace h := bd h
  obtain ⟨⟨r7721, r7722, t7723⟩, hA7724, h⟩ := h
  dsimp only at h
  refine VC.join2 (fun (v7726 : Value) (v7728 : Value) => ⟨65, [(2, .int .i64 i7675), (3, .string s7676), (4, .pointer (some ⟨g7571, 0, none⟩)), (8, .pointer (some ⟨g7572, 0, none⟩)), (9, .int .i64 t7573), (10, .int .i64 (wrap64 (t7573 + (IntKind.i64.wrap (i7675.tdiv 64))))), (11, .int .i64 (i7675.tmod 64)), (12, .int .i64 (mn (wrap64 (64 - (i7675.tmod 64))) (s7676.size : Int))), (13, .string t7710), (20, .string s7676), (21, .bool true), (22, .int .i64 t7573), (23, .int .i64 i7675), (24, .int .i64 (IntKind.i64.wrap (i7675.tdiv 64))), (25, .int .i64 (wrap64 (t7573 + (IntKind.i64.wrap (i7675.tdiv 64))))), (26, .int .i64 i7675), (27, .int .i64 (i7675.tmod 64)), (28, .int .i64 (i7675.tmod 64)), (29, .int .i64 (wrap64 (64 - (i7675.tmod 64)))), (30, .string s7676), (31, .int .i64 (s7676.size : Int)), (32, .int .i64 (mn (wrap64 (64 - (i7675.tmod 64))) (s7676.size : Int))), (33, .tuple #[.string t7710, .int .i64 t7711]), (34, .agg #[v7678, v7681]), (35, .int .i64 (wrap64 (t7573 + (IntKind.i64.wrap (i7675.tdiv 64))))), (36, .tuple #[.string t7710, .int .i64 t7711]), (37, .string t7710), (38, .int .i64 t7711), (39, .tuple #[.agg #[v7726, v7728], .int .i64 t7723]), (40, .agg #[v7678, v7681]), (41, .int .i64 (wrap64 (t7573 + (IntKind.i64.wrap (i7675.tdiv 64))))), (42, .string t7710), (43, .int .i64 (i7675.tmod 64)), (44, .string (t7710.extract 0 ((i7675.tmod 64).toNat))), (45, .string s7676), (46, .int .i64 (mn (wrap64 (64 - (i7675.tmod 64))) (s7676.size : Int))), (47, .string (s7676.extract 0 ((mn (wrap64 (64 - (i7675.tmod 64))) (s7676.size : Int)).toNat))), (48, .string ((t7710.extract 0 ((i7675.tmod 64).toNat)) ++ (s7676.extract 0 ((mn (wrap64 (64 - (i7675.tmod 64))) (s7676.size : Int)).toNat)))), (49, .string t7710), (50, .int .i64 (i7675.tmod 64)), (51, .int .i64 (mn (wrap64 (64 - (i7675.tmod 64))) (s7676.size : Int))), (52, .int .i64 (wrap64 ((i7675.tmod 64) + (mn (wrap64 (64 - (i7675.tmod 64))) (s7676.size : Int))))), (53, .string (t7710.extract ((wrap64 ((i7675.tmod 64) + (mn (wrap64 (64 - (i7675.tmod 64))) (s7676.size : Int)))).toNat) t7710.size)), (54, .string (((t7710.extract 0 ((i7675.tmod 64).toNat)) ++ (s7676.extract 0 ((mn (wrap64 (64 - (i7675.tmod 64))) (s7676.size : Int)).toNat))) ++ (t7710.extract ((wrap64 ((i7675.tmod 64) + (mn (wrap64 (64 - (i7675.tmod 64))) (s7676.size : Int)))).toNat) t7710.size))), (55, .tuple #[.agg #[v7726, v7728], .int .i64 t7723]), (56, .agg #[v7726, v7728])], [.row v7726 1 (r7721.map enc_str), .row v7728 2 (r7722.map enc55), .row v7678 1 (l7679.map enc_str), .row v7681 2 (l7682.map enc55)], [(g7572, 25, [.slice none 0 0, .slice none 0 0]), (g7571, 25, [v7726, v7728])], []⟩) (fun (v7726 : Value) (v7728 : Value) => True) ?_ ?_
  · refine VC.drawB ⟨0, [], [], [], []⟩ [19] ⟨0, [], [], [(g7571, 25, [v7678, v7681])], []⟩ (by kernel_rfl) rfl (by kernel_rfl) (n := 20) (listed := LB 20 0) <|
     VB.vb (i := 0) (listed' := LB 20 1) rfl (op_load 0 2 rfl rfl TI25 rfl (fun h => absurd h (by decide))) rfl (by kernel_rfl) (by kernel_rfl) (by kernel_rfl) (by kernel_rfl) (by kernel_rfl) (by kernel_rfl) (PartP.on ⟨trivial, trivial, trivial⟩ ⟨trivial, ⟨⟨1, rfl⟩, trivial⟩, trivial⟩) (fun _ _ _ h => h) <|
     VB.va (i := 1) (listed' := LB 20 3) rfl (mv rfl) rfl (by kernel_rfl) (by kernel_rfl) (by kernel_rfl) (by kernel_rfl) (by decide) (PartP.on ⟨trivial, trivial, trivial⟩ ⟨trivial, ⟨⟨1, rfl⟩, trivial⟩, trivial⟩) (fun _ _ _ h => h) <|
     VB.va (i := 2) (listed' := LB 20 7) rfl (mv rfl) rfl (by kernel_rfl) (by kernel_rfl) (by kernel_rfl) (by kernel_rfl) (by decide) (PartP.on ⟨trivial, trivial, trivial⟩ ⟨trivial, ⟨⟨1, rfl⟩, trivial⟩, trivial⟩) (fun _ _ _ h => h) <|
     VB.va (i := 3) (listed' := LB 20 15) rfl (mv rfl) rfl (by kernel_rfl) (by kernel_rfl) (by kernel_rfl) (by kernel_rfl) (by decide) (PartP.on ⟨trivial, trivial, trivial⟩ ⟨trivial, ⟨⟨1, rfl⟩, trivial⟩, trivial⟩) (fun _ _ _ h => h) <|
     VB.va (i := 4) (listed' := LB 20 31) rfl (op_sliceS 0 ((i7675.tmod 64).toNat) Try.underlying9 rfl ⟨rfl, ⟨_, _, rfl, c7713, rfl⟩, Nat.zero_le _, tN (a := (i7675.tmod 64)) (b := (t7710.size : Int)) rfl rfl c7714⟩ rfl) rfl (by kernel_rfl) (by kernel_rfl) (by kernel_rfl) (by kernel_rfl) (by decide) (PartP.on ⟨trivial, trivial, trivial⟩ ⟨trivial, ⟨⟨1, rfl⟩, trivial⟩, trivial⟩) (fun _ _ _ h => h) <|
     VB.va (i := 5) (listed' := LB 20 63) rfl (mv rfl) rfl (by kernel_rfl) (by kernel_rfl) (by kernel_rfl) (by kernel_rfl) (by decide) (PartP.on ⟨trivial, trivial, trivial⟩ ⟨trivial, ⟨⟨1, rfl⟩, trivial⟩, trivial⟩) (fun _ _ _ h => h) <|
     VB.va (i := 6) (listed' := LB 20 127) rfl (mv rfl) rfl (by kernel_rfl) (by kernel_rfl) (by kernel_rfl) (by kernel_rfl) (by decide) (PartP.on ⟨trivial, trivial, trivial⟩ ⟨trivial, ⟨⟨1, rfl⟩, trivial⟩, trivial⟩) (fun _ _ _ h => h) <|
     VB.va (i := 7) (listed' := LB 20 255) rfl (op_sliceS 0 ((mn (wrap64 (64 - (i7675.tmod 64))) (s7676.size : Int)).toNat) Try.underlying9 rfl ⟨rfl, ⟨_, _, rfl, c7715, rfl⟩, Nat.zero_le _, tN (a := (mn (wrap64 (64 - (i7675.tmod 64))) (s7676.size : Int))) (b := (s7676.size : Int)) rfl rfl c7716⟩ rfl) rfl (by kernel_rfl) (by kernel_rfl) (by kernel_rfl) (by kernel_rfl) (by decide) (PartP.on ⟨trivial, trivial, trivial⟩ ⟨trivial, ⟨⟨1, rfl⟩, trivial⟩, trivial⟩) (fun _ _ _ h => h) <|
     VB.va (i := 8) (listed' := LB 20 511) rfl (op_adds rfl rfl rfl c7717) rfl (by kernel_rfl) (by kernel_rfl) (by kernel_rfl) (by kernel_rfl) (by decide) (PartP.on ⟨trivial, trivial, trivial⟩ ⟨trivial, ⟨⟨1, rfl⟩, trivial⟩, trivial⟩) (fun _ _ _ h => h) <|
     VB.va (i := 9) (listed' := LB 20 1023) rfl (mv rfl) rfl (by kernel_rfl) (by kernel_rfl) (by kernel_rfl) (by kernel_rfl) (by decide) (PartP.on ⟨trivial, trivial, trivial⟩ ⟨trivial, ⟨⟨1, rfl⟩, trivial⟩, trivial⟩) (fun _ _ _ h => h) <|
     VB.va (i := 10) (listed' := LB 20 2047) rfl (mv rfl) rfl (by kernel_rfl) (by kernel_rfl) (by kernel_rfl) (by kernel_rfl) (by decide) (PartP.on ⟨trivial, trivial, trivial⟩ ⟨trivial, ⟨⟨1, rfl⟩, trivial⟩, trivial⟩) (fun _ _ _ h => h) <|
     VB.va (i := 11) (listed' := LB 20 4095) rfl (mv rfl) rfl (by kernel_rfl) (by kernel_rfl) (by kernel_rfl) (by kernel_rfl) (by decide) (PartP.on ⟨trivial, trivial, trivial⟩ ⟨trivial, ⟨⟨1, rfl⟩, trivial⟩, trivial⟩) (fun _ _ _ h => h) <|
     VB.va (i := 12) (listed' := LB 20 8191) rfl (op_ari64 rfl rfl rfl) rfl (by kernel_rfl) (by kernel_rfl) (by kernel_rfl) (by kernel_rfl) (by decide) (PartP.on ⟨trivial, trivial, trivial⟩ ⟨trivial, ⟨⟨1, rfl⟩, trivial⟩, trivial⟩) (fun _ _ _ h => h) <|
     VB.va (i := 13) (listed' := LB 20 16383) rfl (op_sliceS ((wrap64 ((i7675.tmod 64) + (mn (wrap64 (64 - (i7675.tmod 64))) (s7676.size : Int)))).toNat) t7710.size Try.underlying9 rfl ⟨⟨_, _, rfl, c7718, rfl⟩, rfl, tN (a := (wrap64 ((i7675.tmod 64) + (mn (wrap64 (64 - (i7675.tmod 64))) (s7676.size : Int))))) (b := (t7710.size : Int)) rfl rfl c7719, Nat.le_refl _⟩ rfl) rfl (by kernel_rfl) (by kernel_rfl) (by kernel_rfl) (by kernel_rfl) (by decide) (PartP.on ⟨trivial, trivial, trivial⟩ ⟨trivial, ⟨⟨1, rfl⟩, trivial⟩, trivial⟩) (fun _ _ _ h => h) <|
     VB.va (i := 14) (listed' := LB 20 32767) rfl (op_adds rfl rfl rfl c7720) rfl (by kernel_rfl) (by kernel_rfl) (by kernel_rfl) (by kernel_rfl) (by decide) (PartP.on ⟨trivial, trivial, trivial⟩ ⟨trivial, ⟨⟨1, rfl⟩, trivial⟩, trivial⟩) (fun _ _ _ h => h) <|
     VB.oneC (i := 15) (listed' := LB 20 65535) (by kernel_rfl) rfl (o_call0 FO38 (disk_Put.ok k l7679 l7682 (wrap64 (t7573 + (IntKind.i64.wrap (i7675.tdiv 64)))) (((t7710.extract 0 ((i7675.tmod 64).toNat)) ++ (s7676.extract 0 ((mn (wrap64 (64 - (i7675.tmod 64))) (s7676.size : Int)).toNat))) ++ (t7710.extract ((wrap64 ((i7675.tmod 64) + (mn (wrap64 (64 - (i7675.tmod 64))) (s7676.size : Int)))).toNat) t7710.size)) v7678 v7681 r7721 r7722 t7723 hA7724) rfl rfl (ltn rfl) (All_of (.cons (mG 0 rfl) (.cons (mG 1 rfl) .nil)))) rfl (by kernel_rfl) <|
     ?_
    rintro _ _ _ ⟨v7726, v7728, rfl, rfl, rfl⟩
    refine ⟨(PartP.on ⟨trivial, trivial, trivial⟩ ⟨trivial, ⟨⟨1, rfl⟩, trivial⟩, trivial⟩), ?_⟩
    exact VB.more ⟨0, [], [.row v7726 1 (r7721.map enc_str), .row v7728 2 (r7722.map enc55)], [], []⟩ ⟨trivial, trivial, trivial⟩ <|
     VB.va (i := 16) (listed' := LB 20 131071) rfl (mv rfl) rfl (by kernel_rfl) (by kernel_rfl) (by kernel_rfl) (by kernel_rfl) (by decide) (PartP.on ⟨⟨⟨0, rfl⟩, ⟨1, rfl⟩, trivial⟩, trivial, trivial⟩ ⟨trivial, ⟨⟨1, rfl⟩, trivial⟩, trivial⟩) (fun _ _ _ h => h) <|
     VB.va (i := 17) (listed' := LB 20 262143) rfl (op_extract rfl rfl) rfl (by kernel_rfl) (by kernel_rfl) (by kernel_rfl) (by kernel_rfl) (by decide) (PartP.on ⟨⟨⟨0, rfl⟩, ⟨1, rfl⟩, trivial⟩, trivial, trivial⟩ ⟨trivial, ⟨⟨1, rfl⟩, trivial⟩, trivial⟩) (fun _ _ _ h => h) <|
     VB.va (i := 18) (listed' := LB 20 524287) rfl (op_extract rfl rfl) rfl (by kernel_rfl) (by kernel_rfl) (by kernel_rfl) (by kernel_rfl) (by decide) (PartP.on ⟨⟨⟨0, rfl⟩, ⟨1, rfl⟩, trivial⟩, trivial, trivial⟩ ⟨trivial, ⟨⟨1, rfl⟩, trivial⟩, trivial⟩) (fun _ _ _ h => h) <|
     VB.one1 (i := 19) (listed' := LB 20 1048575) (by kernel_rfl) rfl (o_store 1 2 rfl rfl rfl TI25 (.agg (.f 0 rfl (.f 1 rfl .nil))) rfl (len rfl)) rfl (by kernel_rfl) (PartP.off (by kernel_rfl) ⟨⟨⟨0, rfl⟩, ⟨1, rfl⟩, trivial⟩, trivial, trivial⟩) <| VB.done (by kernel_rfl) <|
     VN.meet2 v7726 v7728 [0, 1] [] trivial ⟨rfl, ⟨rfl, rfl, rfl, rfl, rfl, rfl, rfl, rfl, rfl, rfl, rfl, rfl, rfl, rfl, rfl, rfl, rfl, rfl, rfl, rfl, rfl, rfl, rfl, rfl, rfl, rfl, rfl, rfl, rfl, rfl, rfl, rfl, rfl, rfl, rfl, rfl, rfl, rfl, rfl, rfl, rfl, rfl, rfl, rfl, rfl, rfl, trivial⟩, ⟨⟨0, rfl⟩, ⟨1, rfl⟩, ⟨2, rfl⟩, ⟨3, rfl⟩, trivial⟩, rfl, by decide, rfl, by decide⟩
  intro v7726 v7728 _
  refine rg <| vm rfl <| vm rfl <| va (op_sliceS ((mn (wrap64 (64 - (i7675.tmod 64))) (s7676.size : Int)).toNat) s7676.size Try.underlying9 rfl ⟨⟨_, _, rfl, c7715, rfl⟩, rfl, tN (a := (mn (wrap64 (64 - (i7675.tmod 64))) (s7676.size : Int))) (b := (s7676.size : Int)) rfl rfl c7716, Nat.le_refl _⟩ rfl) <|
   vm rfl <| vm rfl <| va (op_ari64 rfl rfl rfl) <| vs rfl <| vs rfl <| dn <| VN.block <|
   VN.again [0, 1] [] (ihl1 (wrap64 (i7675 + (mn (wrap64 (64 - (i7675.tmod 64))) (s7676.size : Int)))) (s7676.extract ((mn (wrap64 (64 - (i7675.tmod 64))) (s7676.size : Int)).toNat) s7676.size) v7726 r7721 v7728 r7722 h) ⟨rfl, ⟨rfl, rfl, rfl, rfl, rfl, trivial⟩, ⟨⟨0, rfl⟩, ⟨1, rfl⟩, trivial⟩, rfl, by decide, rfl, by decide⟩

def lay_70_ren : Go.Shelf.Ren := ⟨fun | 105 => 70 | 212 => 83 | 99 => 84 | 165 => 57 | 166 => 58 | 170 => 85 | 169 => 59 | 263 => 95 | 264 => 96 | 206 => 97 | 240 => 77 | 241 => 78 | 276 => 91 | 277 => 92 | n => n, fun | 9 => 9 | 3 => 3 | 4 => 4 | 20 => 20 | 0 => 0 | 46 => 125 | 109 => 126 | 5 => 5 | 72 => 96 | 76 => 100 | 51 => 108 | 146 => 138 | 53 => 47 | 148 => 140 | 70 => 94 | 37 => 41 | 75 => 99 | 127 => 119 | 164 => 133 | 80 => 76 | n => n, fun | n => n⟩
theorem lay_70 : Go.Proofs.Lays.n105 Try.prog lay_70_ren where
  mixed := by kernel_rfl
  f99 := Try.func84.trans (congrArg some (by kernel_rfl))
  f105 := Try.func70.trans (congrArg some (by kernel_rfl))
  f165 := Try.func57.trans (congrArg some (by kernel_rfl))
  f166 := Try.func58.trans (congrArg some (by kernel_rfl))
  f169 := Try.func59.trans (congrArg some (by kernel_rfl))
  f170 := Try.func85.trans (congrArg some (by kernel_rfl))
  f206 := Try.func97.trans (congrArg some (by kernel_rfl))
  f212 := Try.func83.trans (congrArg some (by kernel_rfl))
  f240 := Try.func77.trans (congrArg some (by kernel_rfl))
  f241 := Try.func78.trans (congrArg some (by kernel_rfl))
  f263 := Try.func95.trans (congrArg some (by kernel_rfl))
  f264 := Try.func96.trans (congrArg some (by kernel_rfl))
  f276 := Try.func91.trans (congrArg some (by kernel_rfl))
  f277 := Try.func92.trans (congrArg some (by kernel_rfl))
  t0 := Try.underlying0
  a0 := Try.isAgg0
  z0 := Try.sizeOf0
  v0 := Try.zeroValue0
  t3 := Try.underlying3
  a3 := Try.isAgg3
  z3 := Try.sizeOf3
  v3 := Try.zeroValue3
  t4 := Try.underlying4
  a4 := Try.isAgg4
  z4 := Try.sizeOf4
  v4 := Try.zeroValue4
  t5 := Try.underlying5
  a5 := Try.isAgg5
  z5 := Try.sizeOf5
  v5 := Try.zeroValue5
  t9 := Try.underlying9
  a9 := Try.isAgg9
  z9 := Try.sizeOf9
  v9 := Try.zeroValue9
  t20 := Try.underlying20
  a20 := Try.isAgg20
  z20 := Try.sizeOf20
  v20 := Try.zeroValue20
  t37 := Try.underlying41
  a37 := Try.isAgg41
  z37 := Try.sizeOf41
  v37 := Try.zeroValue41
  t46 := Try.underlying125
  a46 := Try.isAgg125
  z46 := Try.sizeOf125
  v46 := Try.zeroValue125
  t51 := Try.underlying108
  a51 := Try.isAgg108
  z51 := Try.sizeOf108
  v51 := Try.zeroValue108
  t53 := Try.underlying47
  a53 := Try.isAgg47
  z53 := Try.sizeOf47
  v53 := Try.zeroValue47
  t70 := Try.underlying94
  a70 := Try.isAgg94
  z70 := Try.sizeOf94
  v70 := Try.zeroValue94
  t72 := Try.underlying96
  a72 := Try.isAgg96
  z72 := Try.sizeOf96
  v72 := Try.zeroValue96
  t75 := Try.underlying99
  a75 := Try.isAgg99
  z75 := Try.sizeOf99
  v75 := Try.zeroValue99
  t76 := Try.underlying100
  a76 := Try.isAgg100
  z76 := Try.sizeOf100
  v76 := Try.zeroValue100
  t109 := Try.underlying126
  a109 := Try.isAgg126
  z109 := Try.sizeOf126
  v109 := Try.zeroValue126
  t127 := Try.underlying119
  a127 := Try.isAgg119
  z127 := Try.sizeOf119
  v127 := Try.zeroValue119
  t146 := Try.underlying138
  a146 := Try.isAgg138
  z146 := Try.sizeOf138
  v146 := Try.zeroValue138
  t148 := Try.underlying140
  a148 := Try.isAgg140
  z148 := Try.sizeOf140
  v148 := Try.zeroValue140
  t164 := Try.underlying133
  a164 := Try.isAgg133
  z164 := Try.sizeOf133
  v164 := Try.zeroValue133
theorem lay_70x : Go.Proofs.Builder.Extra Try.prog lay_70_ren where
  sizeBuilder := by kernel_rfl
  liesBuilder := by kernel_rfl
  t5 := Try.underlying5
  a5 := Try.isAgg5
  z5 := Try.sizeOf5
  v5 := Try.zeroValue5
  infoByte := by kernel_rfl
  cellsByte := by kernel_rfl
  sizeByte := by kernel_rfl
  neB5 := by decide

theorem strings_Repeat.ok (s : ByteArray) (c : Int) (r1 : ByteArray) (h : strings_Repeat.f s c = some r1) :
    VCalls Try.prog 70 [.string s, .int .i64 c] [] (fun v G own => v = .string r1 ∧ G = [] ∧ own = []) := by
  unfold strings_Repeat.f at h
  by_cases hc : ¬ (0 ≤ c ∧ c ≤ 9223372036854775807 ∧ s.size * c.toNat ≤ 140737488355328)
  · rw [if_neg hc] at h; cases h
  replace hc := Decidable.not_not.1 hc
  rw [if_pos hc] at h
  obtain rfl := Option.some.inj h
  obtain ⟨n, rfl⟩ : ∃ n : Nat, c = (n : Int) := ⟨c.toNat, by omega⟩
  exact VCalls.of fun w => Go.Proofs.Any.strings_Repeat lay_70 lay_70x s n w (by omega) (by simpa using hc.2.2)

theorem journal_plan_first.ok (k : Nat) (a0_0 : Int) (a0_1 : Int) (a0_2 : ByteArray) (l1_0 : List ByteArray) (l1_1 : List S55) (a1_2 : Int) (a1_3 : Int) (a1_4 : Int) (l1_5 : List ByteArray) (l1_6 : List ByteArray) (v1_0 : Value) (v1_1 : Value) (v1_5 : Value) (v1_6 : Value) (r1 : List ByteArray) (r2 : List S55) (h : journal_plan_first.f k a0_0 a0_1 a0_2 l1_0 l1_1 a1_2 a1_3 a1_4 l1_5 l1_6 = some (r1, r2)) :
    VCalls Try.prog 48 [.agg #[.int .i64 a0_0, .int .i64 a0_1, .string a0_2], .agg #[v1_0, v1_1, .int .i64 a1_2, .int .i64 a1_3, .int .i64 a1_4, v1_5, v1_6]] [.row v1_0 1 (l1_0.map enc_str), .row v1_1 2 (l1_1.map enc55), .row v1_5 1 (l1_5.map enc_str), .row v1_6 1 (l1_6.map enc_str)] (fun v G own => ∃ w0 w1 : Value, v = .agg #[w0, w1] ∧ G = [.row w0 1 (r1.map enc_str), .row w1 2 (r2.map enc55)] ∧ own = []) := by
  refine VCalls.intro Try.func48 rfl (len rfl) fun E hC hW hD hU => ?_
  unfold journal_plan_first.f at h
  refine sr <| sG (o_box rfl (.agg (.of rfl))) fun g7751 => sG (o_box rfl (.agg (.f 0 rfl (.f 1 rfl (.c rfl (.c rfl (.c rfl (.f 2 rfl (.f 3 rfl .nil))))))))) fun g7752 => sG (o_alloc Z25 ZL25) fun g7753 => dt <| ?_
  replace h := bd h
  obtain ⟨⟨r7754, r7755⟩, hA7756, h⟩ := h
  dsimp only at h
  replace h := bd h
  obtain ⟨r7761, hA7762, h⟩ := h
  replace h := bd h
  obtain ⟨⟨r7763, r7764, t7765⟩, hA7766, h⟩ := h
  dsimp only at h
  refine VC.join3 (fun (g7771 : Nat) (v7768 : Value) (v7770 : Value) => ⟨26, [(4, .pointer (some ⟨g7753, 0, none⟩)), (5, .pointer (some ⟨g7771, 0, none⟩))], [.row v7768 1 (r7763.map enc_str), .row v7770 2 (r7764.map enc55)], [(g7771, 25, [v7768, v7770]), (g7753, 25, [.slice none 0 0, .slice none 0 0])], []⟩) (fun (g7771 : Nat) (v7768 : Value) (v7770 : Value) => True) ?_ ?_
  · refine VC.draw ⟨0, [], [], [(g7752, 27, [v1_0, v1_1, .int .i64 a1_2, .int .i64 a1_3, .int .i64 a1_4, v1_5, v1_6]), (g7751, 81, [.int .i64 a0_0, .int .i64 a0_1, .string a0_2])], []⟩ (by kernel_rfl) rfl (by kernel_rfl) (n := 21) (listed := LB 21 0) <|
     aw 0 1 rfl (op_fieldAddr FI27_0 rfl (add_at _ _ _)) ⟨trivial, ⟨⟨1, rfl⟩, ⟨2, rfl⟩, trivial⟩, trivial⟩ <| aw 1 3 rfl (op_load 0 2 rfl rfl TI25 rfl (fun h => absurd h (by decide))) ⟨trivial, ⟨⟨1, rfl⟩, ⟨2, rfl⟩, trivial⟩, trivial⟩ <|
     aw 2 7 rfl (op_fieldAddr FI81_0 rfl (add_at _ _ _)) ⟨trivial, ⟨⟨1, rfl⟩, ⟨2, rfl⟩, trivial⟩, trivial⟩ <| aw 3 15 rfl (op_load 1 1 rfl rfl TI3 rfl (by decide)) ⟨trivial, ⟨⟨1, rfl⟩, ⟨2, rfl⟩, trivial⟩, trivial⟩ <|
     aw 4 31 rfl (op_fieldAddr FI81_1 rfl (add_at _ _ _)) ⟨trivial, ⟨⟨1, rfl⟩, ⟨2, rfl⟩, trivial⟩, trivial⟩ <| aw 5 63 rfl (op_load 1 1 rfl rfl TI3 rfl (by decide)) ⟨trivial, ⟨⟨1, rfl⟩, ⟨2, rfl⟩, trivial⟩, trivial⟩ <|
     aw 6 127 rfl (op_fieldAddr FI81_2 rfl (add_at _ _ _)) ⟨trivial, ⟨⟨1, rfl⟩, ⟨2, rfl⟩, trivial⟩, trivial⟩ <| aw 7 255 rfl (op_load 1 1 rfl rfl TI9 rfl (by decide)) ⟨trivial, ⟨⟨1, rfl⟩, ⟨2, rfl⟩, trivial⟩, trivial⟩ <|
     aw 9 767 rfl (op_fieldAddr FI27_1 rfl (add_at _ _ _)) ⟨trivial, ⟨⟨1, rfl⟩, ⟨2, rfl⟩, trivial⟩, trivial⟩ <| aw 10 1791 rfl (op_load 0 1 rfl rfl TI3 rfl (by decide)) ⟨trivial, ⟨⟨1, rfl⟩, ⟨2, rfl⟩, trivial⟩, trivial⟩ <|
     aw 11 3839 rfl (op_ari64 rfl rfl rfl) ⟨trivial, ⟨⟨1, rfl⟩, ⟨2, rfl⟩, trivial⟩, trivial⟩ <| aw 12 7935 rfl (op_rem rfl rfl (by decide) rfl) ⟨trivial, ⟨⟨1, rfl⟩, ⟨2, rfl⟩, trivial⟩, trivial⟩ <| VA.all [8, 18] (by kernel_rfl) (by simp) <|
     VAll.consC (listed' := LB 21 8191) rfl (o_call0 FO72 (journal_laid.ok k l1_0 l1_1 a0_0 a0_1 a0_2 v1_0 v1_1 r7754 r7755 hA7756) rfl rfl (ltn rfl) (All_of (.cons (mG 0 rfl) (.cons (mG 1 rfl) .nil)))) rfl (by kernel_rfl) ?_ ?_
    · rintro _ _ _ ⟨v7758, v7760, rfl, rfl, rfl⟩
      refine ⟨⟨trivial, ⟨⟨1, rfl⟩, ⟨2, rfl⟩, trivial⟩, trivial⟩, ?_⟩
      refine VA.all [13, 18] (by kernel_rfl) (by simp) <| VAll.consC (listed' := LB 21 16383) rfl (o_call0 FO70 (strings_Repeat.ok (⟨#[0]⟩ : ByteArray) 64 r7761 hA7762) rfl rfl (ltn rfl) (All_of .nil)) rfl (by kernel_rfl) ?_ ?_
      · rintro _ _ _ ⟨rfl, rfl, rfl⟩
        refine ⟨⟨trivial, ⟨⟨1, rfl⟩, ⟨2, rfl⟩, trivial⟩, trivial⟩, ?_⟩
        refine VA.all [14, 18] (by kernel_rfl) (by simp) <|
         VAll.consC (listed' := LB 21 32767) rfl (o_call0 FO38 (disk_Put.ok k r7754 r7755 ((wrap64 (a1_2 + 1)).tmod 2) r7761 v7758 v7760 r7763 r7764 t7765 hA7766) rfl rfl (ltn rfl) (All_of (.cons (mG 0 rfl) (.cons (mG 1 rfl) .nil)))) rfl (by kernel_rfl) ?_ ?_
        · rintro _ _ _ ⟨v7768, v7770, rfl, rfl, rfl⟩
          refine ⟨⟨trivial, ⟨⟨1, rfl⟩, ⟨2, rfl⟩, trivial⟩, trivial⟩, ?_⟩
          exact VA.more ⟨0, [], [.row v7768 1 (r7763.map enc_str), .row v7770 2 (r7764.map enc55)], [(g7752, 27, [v1_0, v1_1, .int .i64 a1_2, .int .i64 a1_3, .int .i64 a1_4, v1_5, v1_6]), (g7751, 81, [.int .i64 a0_0, .int .i64 a0_1, .string a0_2])], []⟩ ⟨trivial, ⟨⟨0, rfl⟩, ⟨1, rfl⟩, trivial⟩, trivial⟩ <|
           aw 15 65535 rfl (mv rfl) ⟨⟨⟨0, rfl⟩, ⟨1, rfl⟩, trivial⟩, ⟨⟨1, rfl⟩, ⟨2, rfl⟩, trivial⟩, trivial⟩ <| aw 16 131071 rfl (op_extract rfl rfl) ⟨⟨⟨0, rfl⟩, ⟨1, rfl⟩, trivial⟩, ⟨⟨1, rfl⟩, ⟨2, rfl⟩, trivial⟩, trivial⟩ <|
           aw 17 262143 rfl (op_extract rfl rfl) ⟨⟨⟨0, rfl⟩, ⟨1, rfl⟩, trivial⟩, ⟨⟨1, rfl⟩, ⟨2, rfl⟩, trivial⟩, trivial⟩ <|
           VA.oneG (i := 18) (listed' := LB 21 524287) (by kernel_rfl) rfl (o_alloc Z25 ZL25) rfl (by kernel_rfl) (fun _ => ⟨⟨⟨0, rfl⟩, ⟨1, rfl⟩, trivial⟩, ⟨⟨2, rfl⟩, ⟨3, rfl⟩, trivial⟩, trivial⟩) fun g7771 => VA.one1 (i := 19) (listed' := LB 21 1048575) (by kernel_rfl) rfl (o_store 0 2 rfl rfl rfl TI25 (.agg (.f 0 rfl (.f 1 rfl .nil))) rfl (len rfl)) rfl (by kernel_rfl) ⟨⟨⟨0, rfl⟩, ⟨1, rfl⟩, trivial⟩, ⟨⟨2, rfl⟩, ⟨3, rfl⟩, trivial⟩, trivial⟩ <|
           aw 20 2097151 rfl (ag rfl) ⟨⟨⟨0, rfl⟩, ⟨1, rfl⟩, trivial⟩, ⟨⟨2, rfl⟩, ⟨3, rfl⟩, trivial⟩, trivial⟩ <| VA.done (by kernel_rfl) <| VN.meet3 g7771 v7768 v7770 [0, 1] [] trivial ⟨rfl, ⟨rfl, rfl, trivial⟩, ⟨⟨0, rfl⟩, ⟨1, rfl⟩, trivial⟩, rfl, by decide, rfl, by decide⟩
        refine VAll.consG (listed' := LB 21 278527) rfl (o_alloc Z25 ZL25) rfl (by kernel_rfl) (fun _ => ⟨trivial, ⟨⟨2, rfl⟩, ⟨3, rfl⟩, trivial⟩, trivial⟩) ?_ VAll.nil
        intro g7771
        refine VA.oneC (i := 14) (listed' := LB 21 294911) (by kernel_rfl) rfl (o_call0 FO38 (disk_Put.ok k r7754 r7755 ((wrap64 (a1_2 + 1)).tmod 2) r7761 v7758 v7760 r7763 r7764 t7765 hA7766) rfl rfl (ltn rfl) (All_of (.cons (mG 0 rfl) (.cons (mG 1 rfl) .nil)))) rfl (by kernel_rfl) <| ?_
        rintro _ _ _ ⟨v7768, v7770, rfl, rfl, rfl⟩
        refine ⟨⟨trivial, ⟨⟨2, rfl⟩, ⟨3, rfl⟩, trivial⟩, trivial⟩, ?_⟩
        exact VA.more ⟨0, [], [.row v7768 1 (r7763.map enc_str), .row v7770 2 (r7764.map enc55)], [(g7752, 27, [v1_0, v1_1, .int .i64 a1_2, .int .i64 a1_3, .int .i64 a1_4, v1_5, v1_6]), (g7751, 81, [.int .i64 a0_0, .int .i64 a0_1, .string a0_2])], []⟩ ⟨trivial, ⟨⟨0, rfl⟩, ⟨1, rfl⟩, trivial⟩, trivial⟩ <|
         aw 15 327679 rfl (mv rfl) ⟨⟨⟨0, rfl⟩, ⟨1, rfl⟩, trivial⟩, ⟨⟨2, rfl⟩, ⟨3, rfl⟩, trivial⟩, trivial⟩ <| aw 16 393215 rfl (op_extract rfl rfl) ⟨⟨⟨0, rfl⟩, ⟨1, rfl⟩, trivial⟩, ⟨⟨2, rfl⟩, ⟨3, rfl⟩, trivial⟩, trivial⟩ <|
         aw 17 524287 rfl (op_extract rfl rfl) ⟨⟨⟨0, rfl⟩, ⟨1, rfl⟩, trivial⟩, ⟨⟨2, rfl⟩, ⟨3, rfl⟩, trivial⟩, trivial⟩ <|
         VA.one1 (i := 19) (listed' := LB 21 1048575) (by kernel_rfl) rfl (o_store 0 2 rfl rfl rfl TI25 (.agg (.f 0 rfl (.f 1 rfl .nil))) rfl (len rfl)) rfl (by kernel_rfl) ⟨⟨⟨0, rfl⟩, ⟨1, rfl⟩, trivial⟩, ⟨⟨2, rfl⟩, ⟨3, rfl⟩, trivial⟩, trivial⟩ <|
         aw 20 2097151 rfl (ag rfl) ⟨⟨⟨0, rfl⟩, ⟨1, rfl⟩, trivial⟩, ⟨⟨2, rfl⟩, ⟨3, rfl⟩, trivial⟩, trivial⟩ <| VA.done (by kernel_rfl) <| VN.meet3 g7771 v7768 v7770 [0, 1] [] trivial ⟨rfl, ⟨rfl, rfl, trivial⟩, ⟨⟨0, rfl⟩, ⟨1, rfl⟩, trivial⟩, rfl, by decide, rfl, by decide⟩
      refine VAll.consG (listed' := LB 21 270335) rfl (o_alloc Z25 ZL25) rfl (by kernel_rfl) (fun _ => ⟨trivial, ⟨⟨2, rfl⟩, ⟨3, rfl⟩, trivial⟩, trivial⟩) ?_ VAll.nil
      intro g7771
      refine VA.oneC (i := 13) (listed' := LB 21 278527) (by kernel_rfl) rfl (o_call0 FO70 (strings_Repeat.ok (⟨#[0]⟩ : ByteArray) 64 r7761 hA7762) rfl rfl (ltn rfl) (All_of .nil)) rfl (by kernel_rfl) <| ?_
      rintro _ _ _ ⟨rfl, rfl, rfl⟩
      refine ⟨⟨trivial, ⟨⟨2, rfl⟩, ⟨3, rfl⟩, trivial⟩, trivial⟩, ?_⟩
      refine VA.oneC (i := 14) (listed' := LB 21 294911) (by kernel_rfl) rfl (o_call0 FO38 (disk_Put.ok k r7754 r7755 ((wrap64 (a1_2 + 1)).tmod 2) r7761 v7758 v7760 r7763 r7764 t7765 hA7766) rfl rfl (ltn rfl) (All_of (.cons (mG 0 rfl) (.cons (mG 1 rfl) .nil)))) rfl (by kernel_rfl) <| ?_
      rintro _ _ _ ⟨v7768, v7770, rfl, rfl, rfl⟩
      refine ⟨⟨trivial, ⟨⟨2, rfl⟩, ⟨3, rfl⟩, trivial⟩, trivial⟩, ?_⟩
      exact VA.more ⟨0, [], [.row v7768 1 (r7763.map enc_str), .row v7770 2 (r7764.map enc55)], [(g7752, 27, [v1_0, v1_1, .int .i64 a1_2, .int .i64 a1_3, .int .i64 a1_4, v1_5, v1_6]), (g7751, 81, [.int .i64 a0_0, .int .i64 a0_1, .string a0_2])], []⟩ ⟨trivial, ⟨⟨0, rfl⟩, ⟨1, rfl⟩, trivial⟩, trivial⟩ <|
       aw 15 327679 rfl (mv rfl) ⟨⟨⟨0, rfl⟩, ⟨1, rfl⟩, trivial⟩, ⟨⟨2, rfl⟩, ⟨3, rfl⟩, trivial⟩, trivial⟩ <| aw 16 393215 rfl (op_extract rfl rfl) ⟨⟨⟨0, rfl⟩, ⟨1, rfl⟩, trivial⟩, ⟨⟨2, rfl⟩, ⟨3, rfl⟩, trivial⟩, trivial⟩ <|
       aw 17 524287 rfl (op_extract rfl rfl) ⟨⟨⟨0, rfl⟩, ⟨1, rfl⟩, trivial⟩, ⟨⟨2, rfl⟩, ⟨3, rfl⟩, trivial⟩, trivial⟩ <|
       VA.one1 (i := 19) (listed' := LB 21 1048575) (by kernel_rfl) rfl (o_store 0 2 rfl rfl rfl TI25 (.agg (.f 0 rfl (.f 1 rfl .nil))) rfl (len rfl)) rfl (by kernel_rfl) ⟨⟨⟨0, rfl⟩, ⟨1, rfl⟩, trivial⟩, ⟨⟨2, rfl⟩, ⟨3, rfl⟩, trivial⟩, trivial⟩ <|
       aw 20 2097151 rfl (ag rfl) ⟨⟨⟨0, rfl⟩, ⟨1, rfl⟩, trivial⟩, ⟨⟨2, rfl⟩, ⟨3, rfl⟩, trivial⟩, trivial⟩ <| VA.done (by kernel_rfl) <| VN.meet3 g7771 v7768 v7770 [0, 1] [] trivial ⟨rfl, ⟨rfl, rfl, trivial⟩, ⟨⟨0, rfl⟩, ⟨1, rfl⟩, trivial⟩, rfl, by decide, rfl, by decide⟩
    refine VAll.consG (listed' := LB 21 270079) rfl (o_alloc Z25 ZL25) rfl (by kernel_rfl) (fun _ => ⟨trivial, ⟨⟨2, rfl⟩, ⟨3, rfl⟩, trivial⟩, trivial⟩) ?_ VAll.nil
    intro g7771
    refine VA.oneC (i := 8) (listed' := LB 21 270335) (by kernel_rfl) rfl (o_call0 FO72 (journal_laid.ok k l1_0 l1_1 a0_0 a0_1 a0_2 v1_0 v1_1 r7754 r7755 hA7756) rfl rfl (ltn rfl) (All_of (.cons (mG 0 rfl) (.cons (mG 1 rfl) .nil)))) rfl (by kernel_rfl) <| ?_
    rintro _ _ _ ⟨v7758, v7760, rfl, rfl, rfl⟩
    refine ⟨⟨trivial, ⟨⟨2, rfl⟩, ⟨3, rfl⟩, trivial⟩, trivial⟩, ?_⟩
    refine VA.oneC (i := 13) (listed' := LB 21 278527) (by kernel_rfl) rfl (o_call0 FO70 (strings_Repeat.ok (⟨#[0]⟩ : ByteArray) 64 r7761 hA7762) rfl rfl (ltn rfl) (All_of .nil)) rfl (by kernel_rfl) <| ?_
    rintro _ _ _ ⟨rfl, rfl, rfl⟩
    refine ⟨⟨trivial, ⟨⟨2, rfl⟩, ⟨3, rfl⟩, trivial⟩, trivial⟩, ?_⟩
    refine VA.oneC (i := 14) (listed' := LB 21 294911) (by kernel_rfl) rfl (o_call0 FO38 (disk_Put.ok k r7754 r7755 ((wrap64 (a1_2 + 1)).tmod 2) r7761 v7758 v7760 r7763 r7764 t7765 hA7766) rfl rfl (ltn rfl) (All_of (.cons (mG 0 rfl) (.cons (mG 1 rfl) .nil)))) rfl (by kernel_rfl) <| ?_
    rintro _ _ _ ⟨v7768, v7770, rfl, rfl, rfl⟩
    refine ⟨⟨trivial, ⟨⟨2, rfl⟩, ⟨3, rfl⟩, trivial⟩, trivial⟩, ?_⟩
    exact VA.more ⟨0, [], [.row v7768 1 (r7763.map enc_str), .row v7770 2 (r7764.map enc55)], [(g7752, 27, [v1_0, v1_1, .int .i64 a1_2, .int .i64 a1_3, .int .i64 a1_4, v1_5, v1_6]), (g7751, 81, [.int .i64 a0_0, .int .i64 a0_1, .string a0_2])], []⟩ ⟨trivial, ⟨⟨0, rfl⟩, ⟨1, rfl⟩, trivial⟩, trivial⟩ <|
     aw 15 327679 rfl (mv rfl) ⟨⟨⟨0, rfl⟩, ⟨1, rfl⟩, trivial⟩, ⟨⟨2, rfl⟩, ⟨3, rfl⟩, trivial⟩, trivial⟩ <| aw 16 393215 rfl (op_extract rfl rfl) ⟨⟨⟨0, rfl⟩, ⟨1, rfl⟩, trivial⟩, ⟨⟨2, rfl⟩, ⟨3, rfl⟩, trivial⟩, trivial⟩ <|
     aw 17 524287 rfl (op_extract rfl rfl) ⟨⟨⟨0, rfl⟩, ⟨1, rfl⟩, trivial⟩, ⟨⟨2, rfl⟩, ⟨3, rfl⟩, trivial⟩, trivial⟩ <|
     VA.one1 (i := 19) (listed' := LB 21 1048575) (by kernel_rfl) rfl (o_store 0 2 rfl rfl rfl TI25 (.agg (.f 0 rfl (.f 1 rfl .nil))) rfl (len rfl)) rfl (by kernel_rfl) ⟨⟨⟨0, rfl⟩, ⟨1, rfl⟩, trivial⟩, ⟨⟨2, rfl⟩, ⟨3, rfl⟩, trivial⟩, trivial⟩ <|
     aw 20 2097151 rfl (ag rfl) ⟨⟨⟨0, rfl⟩, ⟨1, rfl⟩, trivial⟩, ⟨⟨2, rfl⟩, ⟨3, rfl⟩, trivial⟩, trivial⟩ <| VA.done (by kernel_rfl) <| VN.meet3 g7771 v7768 v7770 [0, 1] [] trivial ⟨rfl, ⟨rfl, rfl, trivial⟩, ⟨⟨0, rfl⟩, ⟨1, rfl⟩, trivial⟩, rfl, by decide, rfl, by decide⟩
  intro g7771 v7768 v7770 _
  refine sr <| va (op_load 0 2 rfl rfl TI25 rfl (fun h => absurd h (by decide))) <| s1 (o_store 1 2 rfl rfl rfl TI25 (.agg (.f 0 rfl (.f 1 rfl .nil))) rfl (len rfl)) <| dt <| VC.ret <| ?_
  simp only [Option.some.injEq, Prod.mk.injEq] at h
  obtain ⟨rfl, rfl⟩ := h
  exact VR.fn (rs := [.cell 4 25]) [.row v7768 1 (r7763.map enc_str), .row v7770 2 (r7764.map enc55)] [] [] rfl (.cell 1 rfl rfl TI25 (fun h => absurd h (by decide)) .nil) ⟨v7768, v7770, rfl, rfl, rfl⟩ ⟨⟨0, rfl⟩, ⟨1, rfl⟩, trivial⟩ rfl (by decide)

theorem slices_Clone_string_string.ok (l0 : List ByteArray) (v0 : Value) (r1 : List ByteArray) (h : slices_Clone_string_string.f l0 = some r1) :
    VCalls Try.prog 73 [v0] [.row v0 1 (l0.map enc_str)] (fun v G own => ∃ w0 : Value, v = w0 ∧ G = [] ∧ own = [(w0, 9, 1, r1.map enc_str)]) := by
  unfold slices_Clone_string_string.f at h
  by_cases hc : ¬ (l0.length * 16 ≤ 140737488355328)
  · rw [if_neg hc] at h; cases h
  replace hc := Decidable.not_not.1 hc
  rw [if_pos hc] at h
  obtain rfl := Option.some.inj h
  clear h
  refine VCalls.intro Try.func73 rfl (len rfl) fun E hC hW hD hU => ?_
  refine VC.formF 0 rfl fun A cap hv h1 h2 h3 => ?_
  rw [lenm] at hv h1 h3
  subst hv
  refine VC.seq (VC.region ?_)
  refine VL.va (op_assign rfl (ltn rfl)) rfl ?_
  refine VL.done (VN.then ?_)
  refine VC.seq ?_
  refine VC.seq (VC.region ?_)
  refine VL.va (op_move rfl (ltn rfl)) rfl ?_
  refine VL.va (op_isnil Try.underlying22 rfl rfl (ltn rfl)) rfl ?_
  refine VL.done (VN.then ?_)
  cases A with
  | none =>
    have e : l0 = [] := List.eq_nil_of_length_eq_zero (h3 rfl)
    subst e
    refine VC.cond_t rfl ?_
    refine VC.seq (VC.region ?_)
    refine VL.va (op_assign rfl (ltn rfl)) rfl ?_
    refine VL.done (VN.then ?_)
    refine VC.ret (VR.then ?_)
    refine VR.nilRow' 9 1 ?_
    exact VR.fn (rs := [.tmp 2]) [] [(.slice none 0 0, 9, 1, [])] [0] rfl (.tmp rfl .nil) ⟨_, rfl, rfl, rfl⟩ trivial rfl (by decide)
  | some ad =>
    refine VC.cond_f rfl (VC.skip (VN.then ?_))
    refine VC.seq (VC.region ?_)
    refine VL.sG (o_buildSlice (vals := []) (cells := #[]) (es := List.map enc_str ([] : List ByteArray)) Try.underlying22 TI9 Z9 rfl (by decide) (by decide) (by kernel_rfl) rfl rfl (flat_map enc_str_ok _) (ltn rfl)) rfl ?_
    intro v1
    refine VL.va (op_move rfl (ltn rfl)) rfl ?_
    refine VL.sG (o_append (es3 := l0.map enc_str) 0 rfl Try.underlying22 EI9 rfl rfl rfl (.inl ⟨0, rfl⟩) (by rw [lenm, lenm]; simpa using hc) (ltn rfl)) rfl ?_
    intro v2
    refine VL.va (op_assign rfl (ltn rfl)) rfl ?_
    refine VL.done (VN.then ?_)
    refine VC.ret ?_
    exact VR.fn (rs := [.tmp 2]) [] [(v2, 9, 1, l0.map enc_str)] [0] rfl (.tmp rfl .nil) ⟨_, rfl, rfl, rfl⟩ trivial rfl (by decide)

end Go.Proofs.Ytipeglbeongfmaa.PJournalKeeps
