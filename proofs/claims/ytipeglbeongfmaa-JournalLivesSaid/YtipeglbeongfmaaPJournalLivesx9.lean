/- Written by a program of this repo: what the program's functions do, each as a Lean function, shown of the loaded code; or a statement's row over that; no condition of its own. -/
import Derived.Test.YtipeglbeongfmaaPJournalLivesx8
namespace Go.Proofs.Ytipeglbeongfmaa.PJournalLives
open Go Go.RowKit Go.Proofs.YtipeglbeongfmaaV
set_option linter.unusedVariables false
set_option linter.unusedSimpArgs false
set_option maxHeartbeats 4000000
set_option maxRecDepth 100000

theorem journal_laid.ok (k : Nat) (l0_0 : List ByteArray) (l0_1 : List S55) (a1 : Int) (a2 : Int) (a3 : ByteArray) (v0_0 : Value) (v0_1 : Value) (r1 : List ByteArray) (r2 : List S55) (h : journal_laid.f k l0_0 l0_1 a1 a2 a3 = some (r1, r2)) :
    VCalls Try.prog 72 [.agg #[v0_0, v0_1], .int .i64 a1, .int .i64 a2, .string a3] [.row v0_0 1 (l0_0.map enc_str), .row v0_1 2 (l0_1.map enc55)] (fun v G own => ∃ w0 w1 : Value, v = .agg #[w0, w1] ∧ G = [.row w0 1 (r1.map enc_str), .row w1 2 (r2.map enc55)] ∧ own = []) := by
  refine VCalls.intro Try.func72 rfl (len rfl) fun E hC hW hD hU => ?_
  unfold journal_laid.f at h
  refine sr <| sG (o_box rfl (.agg (.f 0 rfl (.f 1 rfl .nil)))) fun g7876 => sG (o_alloc Z25 ZL25) fun g7877 => nx <| va (op_fieldAddr FI25_0 rfl (add_at _ _ _)) <| va (op_load 1 1 rfl rfl TI22 rfl (by decide)) <| va (op_len (m := l0_0.length) 0 lenm Try.underlying22 rfl rfl) <| vm rfl <| ?_
  replace h := bd h
  obtain ⟨t7878, hA7879, h⟩ := h
  refine sC (o_call0 FO25 (journal_begin.ok (l0_0.length : Int) a1 t7878 hA7879) rfl rfl (ltn rfl) (All_of .nil)) <| ?_
  rintro _ _ _ ⟨rfl, rfl, rfl⟩
  refine vs rfl <| ds <| VC.block <| VC.loop6 (fun (i7980 : Int) (s7981 : ByteArray) (v7983 : Value) (l7984 : List ByteArray) (v7986 : Value) (l7987 : List S55) => ⟨65, [(2, .int .i64 i7980), (3, .string s7981), (4, .pointer (some ⟨g7876, 0, none⟩)), (8, .pointer (some ⟨g7877, 0, none⟩)), (9, .int .i64 t7878)], [.row v7983 1 (l7984.map enc_str), .row v7986 2 (l7987.map enc55)], [(g7877, 25, [.slice none 0 0, .slice none 0 0]), (g7876, 25, [v7983, v7986])], []⟩) (fun (ml1 : Nat) (i7980 : Int) (s7981 : ByteArray) (v7983 : Value) (l7984 : List ByteArray) (v7986 : Value) (l7987 : List S55) => journal_laid.l1 k t7878 ml1 i7980 s7981 l7984 l7987 = some (r1, r2)) k a2 a3 v0_0 l0_0 v0_1 l0_1 [0, 1] [] h ⟨rfl, ⟨rfl, rfl, rfl, rfl, rfl, trivial⟩, ⟨⟨0, rfl⟩, ⟨1, rfl⟩, trivial⟩, rfl, by decide, rfl, by decide⟩ (by intros; simp [journal_laid.l1]) <|
   ?_
  clear h
  intro ml1 ihl1 i7980 s7981 v7983 l7984 v7986 l7987 h
  simp only [journal_laid.l1] at h
  refine sq <| sr <| vm rfl <| VL.letter ((s7981 != (⟨#[]⟩ : ByteArray))) fun b8013 hb8013 => va (op_cmps rfl rfl (congrArg some hb8013)) <| dt <| ?_
  replace h := iC h
  rcases h with ⟨c8014, h⟩ | ⟨c8014, h⟩
  · obtain rfl : b8013 = false := hb8013.symm.trans (bne_of_t c8014)
    refine cf <| VC.exit <| VX.then <| VX.then <| VX.hit <| tx <| va (op_load 1 2 rfl rfl TI25 rfl (fun h => absurd h (by decide))) <| s1 (o_store 0 2 rfl rfl rfl TI25 (.agg (.f 0 rfl (.f 1 rfl .nil))) rfl (len rfl)) <| dt <| VC.ret <| ?_
    simp only [Option.some.injEq, Prod.mk.injEq] at h
    obtain ⟨rfl, rfl⟩ := h
    exact VR.fn (rs := [.cell 8 25]) [.row v7983 1 (l7984.map enc_str), .row v7986 2 (l7987.map enc55)] [] [] rfl (.cell 0 rfl rfl TI25 (fun h => absurd h (by decide)) .nil) ⟨v7983, v7986, rfl, rfl, rfl⟩ ⟨⟨0, rfl⟩, ⟨1, rfl⟩, trivial⟩ rfl (by decide)
  obtain rfl : b8013 = true := hb8013.symm.trans (bne_of_f c8014)
  refine ct <| sk <| VC.block <| sr <| vm rfl <| vm rfl <| va (op_quo rfl rfl (by decide) rfl) <| va (op_ari64 rfl rfl rfl) <| vm rfl <| va (op_rem rfl rfl (by decide) rfl) <| vs rfl <| vs rfl <| nx <| vm rfl <| va (op_ari64 rfl rfl rfl) <| vm rfl <| va (op_lens Try.underlying9 rfl) <|
   va (op_min rfl rfl) <| vs rfl <| nx <| va (op_load 1 2 rfl rfl TI25 rfl (fun h => absurd h (by decide))) <| vm rfl <| ?_
  replace h := bd h
  obtain ⟨⟨t8015, t8016⟩, hA8017, h⟩ := h
  dsimp only at h
  refine sC (o_call0 FO86 (disk_Get.ok k l7984 l7987 (wrap64 (t7878 + (IntKind.i64.wrap (i7980.tdiv 64)))) v7983 v7986 t8015 t8016 hA8017) rfl rfl (ltn rfl) (All_of (.cons (mG 0 rfl) (.cons (mG 1 rfl) .nil)))) <| ?_
  rintro _ _ _ ⟨rfl, rfl, rfl⟩
  refine vm rfl <| va (op_extract rfl rfl) <| va (op_extract rfl rfl) <| vs rfl <| vs rfl <| dt <| ?_
  replace h := iN h
  obtain ⟨c8018, h⟩ := h
  replace h := iN h
  obtain ⟨c8019, h⟩ := h
  replace h := iN h
  obtain ⟨c8020, h⟩ := h
  replace h := iN h
  obtain ⟨c8021, h⟩ := h
  replace h := iN h
  obtain ⟨c8022, h⟩ := h
  replace h := iN h
  obtain ⟨c8023, h⟩ := h
  replace h := iN h
  obtain ⟨c8024, h⟩ := h
  replace h := iN h
  obtain ⟨c8025, h⟩ := h
  replace h := bd h
  obtain ⟨⟨r8026, r8027, t8028⟩, hA8029, h⟩ := h
  dsimp only at h
  refine VC.join2 (fun (v8031 : Value) (v8033 : Value) => ⟨65, [(2, .int .i64 i7980), (3, .string s7981), (4, .pointer (some ⟨g7876, 0, none⟩)), (8, .pointer (some ⟨g7877, 0, none⟩)), (9, .int .i64 t7878), (10, .int .i64 (wrap64 (t7878 + (IntKind.i64.wrap (i7980.tdiv 64))))), (11, .int .i64 (i7980.tmod 64)), (12, .int .i64 (mn (wrap64 (64 - (i7980.tmod 64))) (s7981.size : Int))), (13, .string t8015), (20, .string s7981), (21, .bool true), (22, .int .i64 t7878), (23, .int .i64 i7980), (24, .int .i64 (IntKind.i64.wrap (i7980.tdiv 64))), (25, .int .i64 (wrap64 (t7878 + (IntKind.i64.wrap (i7980.tdiv 64))))), (26, .int .i64 i7980), (27, .int .i64 (i7980.tmod 64)), (28, .int .i64 (i7980.tmod 64)), (29, .int .i64 (wrap64 (64 - (i7980.tmod 64)))), (30, .string s7981), (31, .int .i64 (s7981.size : Int)), (32, .int .i64 (mn (wrap64 (64 - (i7980.tmod 64))) (s7981.size : Int))), (33, .tuple #[.string t8015, .int .i64 t8016]), (34, .agg #[v7983, v7986]), (35, .int .i64 (wrap64 (t7878 + (IntKind.i64.wrap (i7980.tdiv 64))))), (36, .tuple #[.string t8015, .int .i64 t8016]), (37, .string t8015), (38, .int .i64 t8016), (39, .tuple #[.agg #[v8031, v8033], .int .i64 t8028]), (40, .agg #[v7983, v7986]), (41, .int .i64 (wrap64 (t7878 + (IntKind.i64.wrap (i7980.tdiv 64))))), (42, .string t8015), (43, .int .i64 (i7980.tmod 64)), (44, .string (t8015.extract 0 ((i7980.tmod 64).toNat))), (45, .string s7981), (46, .int .i64 (mn (wrap64 (64 - (i7980.tmod 64))) (s7981.size : Int))), (47, .string (s7981.extract 0 ((mn (wrap64 (64 - (i7980.tmod 64))) (s7981.size : Int)).toNat))), (48, .string ((t8015.extract 0 ((i7980.tmod 64).toNat)) ++ (s7981.extract 0 ((mn (wrap64 (64 - (i7980.tmod 64))) (s7981.size : Int)).toNat)))), (49, .string t8015), (50, .int .i64 (i7980.tmod 64)), (51, .int .i64 (mn (wrap64 (64 - (i7980.tmod 64))) (s7981.size : Int))), (52, .int .i64 (wrap64 ((i7980.tmod 64) + (mn (wrap64 (64 - (i7980.tmod 64))) (s7981.size : Int))))), (53, .string (t8015.extract ((wrap64 ((i7980.tmod 64) + (mn (wrap64 (64 - (i7980.tmod 64))) (s7981.size : Int)))).toNat) t8015.size)), (54, .string (((t8015.extract 0 ((i7980.tmod 64).toNat)) ++ (s7981.extract 0 ((mn (wrap64 (64 - (i7980.tmod 64))) (s7981.size : Int)).toNat))) ++ (t8015.extract ((wrap64 ((i7980.tmod 64) + (mn (wrap64 (64 - (i7980.tmod 64))) (s7981.size : Int)))).toNat) t8015.size))), (55, .tuple #[.agg #[v8031, v8033], .int .i64 t8028]), (56, .agg #[v8031, v8033])], [.row v8031 1 (r8026.map enc_str), .row v8033 2 (r8027.map enc55), .row v7983 1 (l7984.map enc_str), .row v7986 2 (l7987.map enc55)], [(g7877, 25, [.slice none 0 0, .slice none 0 0]), (g7876, 25, [v8031, v8033])], []⟩) (fun (v8031 : Value) (v8033 : Value) => True) ?_ ?_
  · refine VC.drawB ⟨0, [], [], [], []⟩ [19] ⟨0, [], [], [(g7876, 25, [v7983, v7986])], []⟩ (by kernel_rfl) rfl (by kernel_rfl) (n := 20) (listed := LB 20 0) <|
     VB.vb (i := 0) (listed' := LB 20 1) rfl (op_load 0 2 rfl rfl TI25 rfl (fun h => absurd h (by decide))) rfl (by kernel_rfl) (by kernel_rfl) (by kernel_rfl) (by kernel_rfl) (by kernel_rfl) (by kernel_rfl) (PartP.on ⟨trivial, trivial, trivial⟩ ⟨trivial, ⟨⟨1, rfl⟩, trivial⟩, trivial⟩) (fun _ _ _ h => h) <|
     VB.va (i := 1) (listed' := LB 20 3) rfl (mv rfl) rfl (by kernel_rfl) (by kernel_rfl) (by kernel_rfl) (by kernel_rfl) (by decide) (PartP.on ⟨trivial, trivial, trivial⟩ ⟨trivial, ⟨⟨1, rfl⟩, trivial⟩, trivial⟩) (fun _ _ _ h => h) <|
     VB.va (i := 2) (listed' := LB 20 7) rfl (mv rfl) rfl (by kernel_rfl) (by kernel_rfl) (by kernel_rfl) (by kernel_rfl) (by decide) (PartP.on ⟨trivial, trivial, trivial⟩ ⟨trivial, ⟨⟨1, rfl⟩, trivial⟩, trivial⟩) (fun _ _ _ h => h) <|
     VB.va (i := 3) (listed' := LB 20 15) rfl (mv rfl) rfl (by kernel_rfl) (by kernel_rfl) (by kernel_rfl) (by kernel_rfl) (by decide) (PartP.on ⟨trivial, trivial, trivial⟩ ⟨trivial, ⟨⟨1, rfl⟩, trivial⟩, trivial⟩) (fun _ _ _ h => h) <|
     VB.va (i := 4) (listed' := LB 20 31) rfl (op_sliceS 0 ((i7980.tmod 64).toNat) Try.underlying9 rfl ⟨rfl, ⟨_, _, rfl, c8018, rfl⟩, Nat.zero_le _, tN (a := (i7980.tmod 64)) (b := (t8015.size : Int)) rfl rfl c8019⟩ rfl) rfl (by kernel_rfl) (by kernel_rfl) (by kernel_rfl) (by kernel_rfl) (by decide) (PartP.on ⟨trivial, trivial, trivial⟩ ⟨trivial, ⟨⟨1, rfl⟩, trivial⟩, trivial⟩) (fun _ _ _ h => h) <|
     VB.va (i := 5) (listed' := LB 20 63) rfl (mv rfl) rfl (by kernel_rfl) (by kernel_rfl) (by kernel_rfl) (by kernel_rfl) (by decide) (PartP.on ⟨trivial, trivial, trivial⟩ ⟨trivial, ⟨⟨1, rfl⟩, trivial⟩, trivial⟩) (fun _ _ _ h => h) <|
     VB.va (i := 6) (listed' := LB 20 127) rfl (mv rfl) rfl (by kernel_rfl) (by kernel_rfl) (by kernel_rfl) (by kernel_rfl) (by decide) (PartP.on ⟨trivial, trivial, trivial⟩ ⟨trivial, ⟨⟨1, rfl⟩, trivial⟩, trivial⟩) (fun _ _ _ h => h) <|
     VB.va (i := 7) (listed' := LB 20 255) rfl (op_sliceS 0 ((mn (wrap64 (64 - (i7980.tmod 64))) (s7981.size : Int)).toNat) Try.underlying9 rfl ⟨rfl, ⟨_, _, rfl, c8020, rfl⟩, Nat.zero_le _, tN (a := (mn (wrap64 (64 - (i7980.tmod 64))) (s7981.size : Int))) (b := (s7981.size : Int)) rfl rfl c8021⟩ rfl) rfl (by kernel_rfl) (by kernel_rfl) (by kernel_rfl) (by kernel_rfl) (by decide) (PartP.on ⟨trivial, trivial, trivial⟩ ⟨trivial, ⟨⟨1, rfl⟩, trivial⟩, trivial⟩) (fun _ _ _ h => h) <|
     VB.va (i := 8) (listed' := LB 20 511) rfl (op_adds rfl rfl rfl c8022) rfl (by kernel_rfl) (by kernel_rfl) (by kernel_rfl) (by kernel_rfl) (by decide) (PartP.on ⟨trivial, trivial, trivial⟩ ⟨trivial, ⟨⟨1, rfl⟩, trivial⟩, trivial⟩) (fun _ _ _ h => h) <|
     VB.va (i := 9) (listed' := LB 20 1023) rfl (mv rfl) rfl (by kernel_rfl) (by kernel_rfl) (by kernel_rfl) (by kernel_rfl) (by decide) (PartP.on ⟨trivial, trivial, trivial⟩ ⟨trivial, ⟨⟨1, rfl⟩, trivial⟩, trivial⟩) (fun _ _ _ h => h) <|
     VB.va (i := 10) (listed' := LB 20 2047) rfl (mv rfl) rfl (by kernel_rfl) (by kernel_rfl) (by kernel_rfl) (by kernel_rfl) (by decide) (PartP.on ⟨trivial, trivial, trivial⟩ ⟨trivial, ⟨⟨1, rfl⟩, trivial⟩, trivial⟩) (fun _ _ _ h => h) <|
     VB.va (i := 11) (listed' := LB 20 4095) rfl (mv rfl) rfl (by kernel_rfl) (by kernel_rfl) (by kernel_rfl) (by kernel_rfl) (by decide) (PartP.on ⟨trivial, trivial, trivial⟩ ⟨trivial, ⟨⟨1, rfl⟩, trivial⟩, trivial⟩) (fun _ _ _ h => h) <|
     VB.va (i := 12) (listed' := LB 20 8191) rfl (op_ari64 rfl rfl rfl) rfl (by kernel_rfl) (by kernel_rfl) (by kernel_rfl) (by kernel_rfl) (by decide) (PartP.on ⟨trivial, trivial, trivial⟩ ⟨trivial, ⟨⟨1, rfl⟩, trivial⟩, trivial⟩) (fun _ _ _ h => h) <|
     VB.va (i := 13) (listed' := LB 20 16383) rfl (op_sliceS ((wrap64 ((i7980.tmod 64) + (mn (wrap64 (64 - (i7980.tmod 64))) (s7981.size : Int)))).toNat) t8015.size Try.underlying9 rfl ⟨⟨_, _, rfl, c8023, rfl⟩, rfl, tN (a := (wrap64 ((i7980.tmod 64) + (mn (wrap64 (64 - (i7980.tmod 64))) (s7981.size : Int))))) (b := (t8015.size : Int)) rfl rfl c8024, Nat.le_refl _⟩ rfl) rfl (by kernel_rfl) (by kernel_rfl) (by kernel_rfl) (by kernel_rfl) (by decide) (PartP.on ⟨trivial, trivial, trivial⟩ ⟨trivial, ⟨⟨1, rfl⟩, trivial⟩, trivial⟩) (fun _ _ _ h => h) <|
     VB.va (i := 14) (listed' := LB 20 32767) rfl (op_adds rfl rfl rfl c8025) rfl (by kernel_rfl) (by kernel_rfl) (by kernel_rfl) (by kernel_rfl) (by decide) (PartP.on ⟨trivial, trivial, trivial⟩ ⟨trivial, ⟨⟨1, rfl⟩, trivial⟩, trivial⟩) (fun _ _ _ h => h) <|
     VB.oneC (i := 15) (listed' := LB 20 65535) (by kernel_rfl) rfl (o_call0 FO38 (disk_Put.ok k l7984 l7987 (wrap64 (t7878 + (IntKind.i64.wrap (i7980.tdiv 64)))) (((t8015.extract 0 ((i7980.tmod 64).toNat)) ++ (s7981.extract 0 ((mn (wrap64 (64 - (i7980.tmod 64))) (s7981.size : Int)).toNat))) ++ (t8015.extract ((wrap64 ((i7980.tmod 64) + (mn (wrap64 (64 - (i7980.tmod 64))) (s7981.size : Int)))).toNat) t8015.size)) v7983 v7986 r8026 r8027 t8028 hA8029) rfl rfl (ltn rfl) (All_of (.cons (mG 0 rfl) (.cons (mG 1 rfl) .nil)))) rfl (by kernel_rfl) <|
     ?_
    rintro _ _ _ ⟨v8031, v8033, rfl, rfl, rfl⟩
    refine ⟨(PartP.on ⟨trivial, trivial, trivial⟩ ⟨trivial, ⟨⟨1, rfl⟩, trivial⟩, trivial⟩), ?_⟩
    exact VB.more ⟨0, [], [.row v8031 1 (r8026.map enc_str), .row v8033 2 (r8027.map enc55)], [], []⟩ ⟨trivial, trivial, trivial⟩ <|
     VB.va (i := 16) (listed' := LB 20 131071) rfl (mv rfl) rfl (by kernel_rfl) (by kernel_rfl) (by kernel_rfl) (by kernel_rfl) (by decide) (PartP.on ⟨⟨⟨0, rfl⟩, ⟨1, rfl⟩, trivial⟩, trivial, trivial⟩ ⟨trivial, ⟨⟨1, rfl⟩, trivial⟩, trivial⟩) (fun _ _ _ h => h) <|
     VB.va (i := 17) (listed' := LB 20 262143) rfl (op_extract rfl rfl) rfl (by kernel_rfl) (by kernel_rfl) (by kernel_rfl) (by kernel_rfl) (by decide) (PartP.on ⟨⟨⟨0, rfl⟩, ⟨1, rfl⟩, trivial⟩, trivial, trivial⟩ ⟨trivial, ⟨⟨1, rfl⟩, trivial⟩, trivial⟩) (fun _ _ _ h => h) <|
     VB.va (i := 18) (listed' := LB 20 524287) rfl (op_extract rfl rfl) rfl (by kernel_rfl) (by kernel_rfl) (by kernel_rfl) (by kernel_rfl) (by decide) (PartP.on ⟨⟨⟨0, rfl⟩, ⟨1, rfl⟩, trivial⟩, trivial, trivial⟩ ⟨trivial, ⟨⟨1, rfl⟩, trivial⟩, trivial⟩) (fun _ _ _ h => h) <|
     VB.one1 (i := 19) (listed' := LB 20 1048575) (by kernel_rfl) rfl (o_store 1 2 rfl rfl rfl TI25 (.agg (.f 0 rfl (.f 1 rfl .nil))) rfl (len rfl)) rfl (by kernel_rfl) (PartP.off (by kernel_rfl) ⟨⟨⟨0, rfl⟩, ⟨1, rfl⟩, trivial⟩, trivial, trivial⟩) <| VB.done (by kernel_rfl) <|
     VN.meet2 v8031 v8033 [0, 1] [] trivial ⟨rfl, ⟨rfl, rfl, rfl, rfl, rfl, rfl, rfl, rfl, rfl, rfl, rfl, rfl, rfl, rfl, rfl, rfl, rfl, rfl, rfl, rfl, rfl, rfl, rfl, rfl, rfl, rfl, rfl, rfl, rfl, rfl, rfl, rfl, rfl, rfl, rfl, rfl, rfl, rfl, rfl, rfl, rfl, rfl, rfl, rfl, rfl, rfl, trivial⟩, ⟨⟨0, rfl⟩, ⟨1, rfl⟩, ⟨2, rfl⟩, ⟨3, rfl⟩, trivial⟩, rfl, by decide, rfl, by decide⟩
  intro v8031 v8033 _
  refine rg <| vm rfl <| vm rfl <| va (op_sliceS ((mn (wrap64 (64 - (i7980.tmod 64))) (s7981.size : Int)).toNat) s7981.size Try.underlying9 rfl ⟨⟨_, _, rfl, c8020, rfl⟩, rfl, tN (a := (mn (wrap64 (64 - (i7980.tmod 64))) (s7981.size : Int))) (b := (s7981.size : Int)) rfl rfl c8021, Nat.le_refl _⟩ rfl) <|
   vm rfl <| vm rfl <| va (op_ari64 rfl rfl rfl) <| vs rfl <| vs rfl <| dn <| VN.block <|
   VN.again [0, 1] [] (ihl1 (wrap64 (i7980 + (mn (wrap64 (64 - (i7980.tmod 64))) (s7981.size : Int)))) (s7981.extract ((mn (wrap64 (64 - (i7980.tmod 64))) (s7981.size : Int)).toNat) s7981.size) v8031 r8026 v8033 r8027 h) ⟨rfl, ⟨rfl, rfl, rfl, rfl, rfl, trivial⟩, ⟨⟨0, rfl⟩, ⟨1, rfl⟩, trivial⟩, rfl, by decide, rfl, by decide⟩

theorem journal_plan_first.ok (k : Nat) (a0_0 : Int) (a0_1 : Int) (a0_2 : ByteArray) (l1_0 : List ByteArray) (l1_1 : List S55) (a1_2 : Int) (a1_3 : Int) (a1_4 : Int) (l1_5 : List ByteArray) (l1_6 : List ByteArray) (v1_0 : Value) (v1_1 : Value) (v1_5 : Value) (v1_6 : Value) (r1 : List ByteArray) (r2 : List S55) (h : journal_plan_first.f k a0_0 a0_1 a0_2 l1_0 l1_1 a1_2 a1_3 a1_4 l1_5 l1_6 = some (r1, r2)) :
    VCalls Try.prog 48 [.agg #[.int .i64 a0_0, .int .i64 a0_1, .string a0_2], .agg #[v1_0, v1_1, .int .i64 a1_2, .int .i64 a1_3, .int .i64 a1_4, v1_5, v1_6]] [.row v1_0 1 (l1_0.map enc_str), .row v1_1 2 (l1_1.map enc55), .row v1_5 1 (l1_5.map enc_str), .row v1_6 1 (l1_6.map enc_str)] (fun v G own => ∃ w0 w1 : Value, v = .agg #[w0, w1] ∧ G = [.row w0 1 (r1.map enc_str), .row w1 2 (r2.map enc55)] ∧ own = []) := by
  refine VCalls.intro Try.func48 rfl (len rfl) fun E hC hW hD hU => ?_
  unfold journal_plan_first.f at h
  refine sr <| sG (o_box rfl (.agg (.of rfl))) fun g8056 => sG (o_box rfl (.agg (.f 0 rfl (.f 1 rfl (.c rfl (.c rfl (.c rfl (.f 2 rfl (.f 3 rfl .nil))))))))) fun g8057 => sG (o_alloc Z25 ZL25) fun g8058 => dt <| ?_
  replace h := bd h
  obtain ⟨⟨r8059, r8060⟩, hA8061, h⟩ := h
  dsimp only at h
  replace h := bd h
  obtain ⟨r8066, hA8067, h⟩ := h
  replace h := bd h
  obtain ⟨⟨r8068, r8069, t8070⟩, hA8071, h⟩ := h
  dsimp only at h
  refine VC.join3 (fun (g8076 : Nat) (v8073 : Value) (v8075 : Value) => ⟨26, [(4, .pointer (some ⟨g8058, 0, none⟩)), (5, .pointer (some ⟨g8076, 0, none⟩))], [.row v8073 1 (r8068.map enc_str), .row v8075 2 (r8069.map enc55)], [(g8076, 25, [v8073, v8075]), (g8058, 25, [.slice none 0 0, .slice none 0 0])], []⟩) (fun (g8076 : Nat) (v8073 : Value) (v8075 : Value) => True) ?_ ?_
  · refine VC.draw ⟨0, [], [], [(g8057, 27, [v1_0, v1_1, .int .i64 a1_2, .int .i64 a1_3, .int .i64 a1_4, v1_5, v1_6]), (g8056, 81, [.int .i64 a0_0, .int .i64 a0_1, .string a0_2])], []⟩ (by kernel_rfl) rfl (by kernel_rfl) (n := 21) (listed := LB 21 0) <|
     aw 0 1 rfl (op_fieldAddr FI27_0 rfl (add_at _ _ _)) ⟨trivial, ⟨⟨1, rfl⟩, ⟨2, rfl⟩, trivial⟩, trivial⟩ <| aw 1 3 rfl (op_load 0 2 rfl rfl TI25 rfl (fun h => absurd h (by decide))) ⟨trivial, ⟨⟨1, rfl⟩, ⟨2, rfl⟩, trivial⟩, trivial⟩ <|
     aw 2 7 rfl (op_fieldAddr FI81_0 rfl (add_at _ _ _)) ⟨trivial, ⟨⟨1, rfl⟩, ⟨2, rfl⟩, trivial⟩, trivial⟩ <| aw 3 15 rfl (op_load 1 1 rfl rfl TI3 rfl (by decide)) ⟨trivial, ⟨⟨1, rfl⟩, ⟨2, rfl⟩, trivial⟩, trivial⟩ <|
     aw 4 31 rfl (op_fieldAddr FI81_1 rfl (add_at _ _ _)) ⟨trivial, ⟨⟨1, rfl⟩, ⟨2, rfl⟩, trivial⟩, trivial⟩ <| aw 5 63 rfl (op_load 1 1 rfl rfl TI3 rfl (by decide)) ⟨trivial, ⟨⟨1, rfl⟩, ⟨2, rfl⟩, trivial⟩, trivial⟩ <|
     aw 6 127 rfl (op_fieldAddr FI81_2 rfl (add_at _ _ _)) ⟨trivial, ⟨⟨1, rfl⟩, ⟨2, rfl⟩, trivial⟩, trivial⟩ <| aw 7 255 rfl (op_load 1 1 rfl rfl TI9 rfl (by decide)) ⟨trivial, ⟨⟨1, rfl⟩, ⟨2, rfl⟩, trivial⟩, trivial⟩ <|
     aw 9 767 rfl (op_fieldAddr FI27_1 rfl (add_at _ _ _)) ⟨trivial, ⟨⟨1, rfl⟩, ⟨2, rfl⟩, trivial⟩, trivial⟩ <| aw 10 1791 rfl (op_load 0 1 rfl rfl TI3 rfl (by decide)) ⟨trivial, ⟨⟨1, rfl⟩, ⟨2, rfl⟩, trivial⟩, trivial⟩ <|
     aw 11 3839 rfl (op_ari64 rfl rfl rfl) ⟨trivial, ⟨⟨1, rfl⟩, ⟨2, rfl⟩, trivial⟩, trivial⟩ <| aw 12 7935 rfl (op_rem rfl rfl (by decide) rfl) ⟨trivial, ⟨⟨1, rfl⟩, ⟨2, rfl⟩, trivial⟩, trivial⟩ <| VA.all [8, 18] (by kernel_rfl) (by simp) <|
     VAll.consC (listed' := LB 21 8191) rfl (o_call0 FO72 (journal_laid.ok k l1_0 l1_1 a0_0 a0_1 a0_2 v1_0 v1_1 r8059 r8060 hA8061) rfl rfl (ltn rfl) (All_of (.cons (mG 0 rfl) (.cons (mG 1 rfl) .nil)))) rfl (by kernel_rfl) ?_ ?_
    · rintro _ _ _ ⟨v8063, v8065, rfl, rfl, rfl⟩
      refine ⟨⟨trivial, ⟨⟨1, rfl⟩, ⟨2, rfl⟩, trivial⟩, trivial⟩, ?_⟩
      refine VA.all [13, 18] (by kernel_rfl) (by simp) <| VAll.consC (listed' := LB 21 16383) rfl (o_call0 FO70 (strings_Repeat.ok (⟨#[0]⟩ : ByteArray) 64 r8066 hA8067) rfl rfl (ltn rfl) (All_of .nil)) rfl (by kernel_rfl) ?_ ?_
      · rintro _ _ _ ⟨rfl, rfl, rfl⟩
        refine ⟨⟨trivial, ⟨⟨1, rfl⟩, ⟨2, rfl⟩, trivial⟩, trivial⟩, ?_⟩
        refine VA.all [14, 18] (by kernel_rfl) (by simp) <|
         VAll.consC (listed' := LB 21 32767) rfl (o_call0 FO38 (disk_Put.ok k r8059 r8060 ((wrap64 (a1_2 + 1)).tmod 2) r8066 v8063 v8065 r8068 r8069 t8070 hA8071) rfl rfl (ltn rfl) (All_of (.cons (mG 0 rfl) (.cons (mG 1 rfl) .nil)))) rfl (by kernel_rfl) ?_ ?_
        · rintro _ _ _ ⟨v8073, v8075, rfl, rfl, rfl⟩
          refine ⟨⟨trivial, ⟨⟨1, rfl⟩, ⟨2, rfl⟩, trivial⟩, trivial⟩, ?_⟩
          exact VA.more ⟨0, [], [.row v8073 1 (r8068.map enc_str), .row v8075 2 (r8069.map enc55)], [(g8057, 27, [v1_0, v1_1, .int .i64 a1_2, .int .i64 a1_3, .int .i64 a1_4, v1_5, v1_6]), (g8056, 81, [.int .i64 a0_0, .int .i64 a0_1, .string a0_2])], []⟩ ⟨trivial, ⟨⟨0, rfl⟩, ⟨1, rfl⟩, trivial⟩, trivial⟩ <|
           aw 15 65535 rfl (mv rfl) ⟨⟨⟨0, rfl⟩, ⟨1, rfl⟩, trivial⟩, ⟨⟨1, rfl⟩, ⟨2, rfl⟩, trivial⟩, trivial⟩ <| aw 16 131071 rfl (op_extract rfl rfl) ⟨⟨⟨0, rfl⟩, ⟨1, rfl⟩, trivial⟩, ⟨⟨1, rfl⟩, ⟨2, rfl⟩, trivial⟩, trivial⟩ <|
           aw 17 262143 rfl (op_extract rfl rfl) ⟨⟨⟨0, rfl⟩, ⟨1, rfl⟩, trivial⟩, ⟨⟨1, rfl⟩, ⟨2, rfl⟩, trivial⟩, trivial⟩ <|
           VA.oneG (i := 18) (listed' := LB 21 524287) (by kernel_rfl) rfl (o_alloc Z25 ZL25) rfl (by kernel_rfl) (fun _ => ⟨⟨⟨0, rfl⟩, ⟨1, rfl⟩, trivial⟩, ⟨⟨2, rfl⟩, ⟨3, rfl⟩, trivial⟩, trivial⟩) fun g8076 => VA.one1 (i := 19) (listed' := LB 21 1048575) (by kernel_rfl) rfl (o_store 0 2 rfl rfl rfl TI25 (.agg (.f 0 rfl (.f 1 rfl .nil))) rfl (len rfl)) rfl (by kernel_rfl) ⟨⟨⟨0, rfl⟩, ⟨1, rfl⟩, trivial⟩, ⟨⟨2, rfl⟩, ⟨3, rfl⟩, trivial⟩, trivial⟩ <|
           aw 20 2097151 rfl (ag rfl) ⟨⟨⟨0, rfl⟩, ⟨1, rfl⟩, trivial⟩, ⟨⟨2, rfl⟩, ⟨3, rfl⟩, trivial⟩, trivial⟩ <| VA.done (by kernel_rfl) <| VN.meet3 g8076 v8073 v8075 [0, 1] [] trivial ⟨rfl, ⟨rfl, rfl, trivial⟩, ⟨⟨0, rfl⟩, ⟨1, rfl⟩, trivial⟩, rfl, by decide, rfl, by decide⟩
        refine VAll.consG (listed' := LB 21 278527) rfl (o_alloc Z25 ZL25) rfl (by kernel_rfl) (fun _ => ⟨trivial, ⟨⟨2, rfl⟩, ⟨3, rfl⟩, trivial⟩, trivial⟩) ?_ VAll.nil
        intro g8076
        refine VA.oneC (i := 14) (listed' := LB 21 294911) (by kernel_rfl) rfl (o_call0 FO38 (disk_Put.ok k r8059 r8060 ((wrap64 (a1_2 + 1)).tmod 2) r8066 v8063 v8065 r8068 r8069 t8070 hA8071) rfl rfl (ltn rfl) (All_of (.cons (mG 0 rfl) (.cons (mG 1 rfl) .nil)))) rfl (by kernel_rfl) <| ?_
        rintro _ _ _ ⟨v8073, v8075, rfl, rfl, rfl⟩
        refine ⟨⟨trivial, ⟨⟨2, rfl⟩, ⟨3, rfl⟩, trivial⟩, trivial⟩, ?_⟩
        exact VA.more ⟨0, [], [.row v8073 1 (r8068.map enc_str), .row v8075 2 (r8069.map enc55)], [(g8057, 27, [v1_0, v1_1, .int .i64 a1_2, .int .i64 a1_3, .int .i64 a1_4, v1_5, v1_6]), (g8056, 81, [.int .i64 a0_0, .int .i64 a0_1, .string a0_2])], []⟩ ⟨trivial, ⟨⟨0, rfl⟩, ⟨1, rfl⟩, trivial⟩, trivial⟩ <|
         aw 15 327679 rfl (mv rfl) ⟨⟨⟨0, rfl⟩, ⟨1, rfl⟩, trivial⟩, ⟨⟨2, rfl⟩, ⟨3, rfl⟩, trivial⟩, trivial⟩ <| aw 16 393215 rfl (op_extract rfl rfl) ⟨⟨⟨0, rfl⟩, ⟨1, rfl⟩, trivial⟩, ⟨⟨2, rfl⟩, ⟨3, rfl⟩, trivial⟩, trivial⟩ <|
         aw 17 524287 rfl (op_extract rfl rfl) ⟨⟨⟨0, rfl⟩, ⟨1, rfl⟩, trivial⟩, ⟨⟨2, rfl⟩, ⟨3, rfl⟩, trivial⟩, trivial⟩ <|
         VA.one1 (i := 19) (listed' := LB 21 1048575) (by kernel_rfl) rfl (o_store 0 2 rfl rfl rfl TI25 (.agg (.f 0 rfl (.f 1 rfl .nil))) rfl (len rfl)) rfl (by kernel_rfl) ⟨⟨⟨0, rfl⟩, ⟨1, rfl⟩, trivial⟩, ⟨⟨2, rfl⟩, ⟨3, rfl⟩, trivial⟩, trivial⟩ <|
         aw 20 2097151 rfl (ag rfl) ⟨⟨⟨0, rfl⟩, ⟨1, rfl⟩, trivial⟩, ⟨⟨2, rfl⟩, ⟨3, rfl⟩, trivial⟩, trivial⟩ <| VA.done (by kernel_rfl) <| VN.meet3 g8076 v8073 v8075 [0, 1] [] trivial ⟨rfl, ⟨rfl, rfl, trivial⟩, ⟨⟨0, rfl⟩, ⟨1, rfl⟩, trivial⟩, rfl, by decide, rfl, by decide⟩
      refine VAll.consG (listed' := LB 21 270335) rfl (o_alloc Z25 ZL25) rfl (by kernel_rfl) (fun _ => ⟨trivial, ⟨⟨2, rfl⟩, ⟨3, rfl⟩, trivial⟩, trivial⟩) ?_ VAll.nil
      intro g8076
      refine VA.oneC (i := 13) (listed' := LB 21 278527) (by kernel_rfl) rfl (o_call0 FO70 (strings_Repeat.ok (⟨#[0]⟩ : ByteArray) 64 r8066 hA8067) rfl rfl (ltn rfl) (All_of .nil)) rfl (by kernel_rfl) <| ?_
      rintro _ _ _ ⟨rfl, rfl, rfl⟩
      refine ⟨⟨trivial, ⟨⟨2, rfl⟩, ⟨3, rfl⟩, trivial⟩, trivial⟩, ?_⟩
      refine VA.oneC (i := 14) (listed' := LB 21 294911) (by kernel_rfl) rfl (o_call0 FO38 (disk_Put.ok k r8059 r8060 ((wrap64 (a1_2 + 1)).tmod 2) r8066 v8063 v8065 r8068 r8069 t8070 hA8071) rfl rfl (ltn rfl) (All_of (.cons (mG 0 rfl) (.cons (mG 1 rfl) .nil)))) rfl (by kernel_rfl) <| ?_
      rintro _ _ _ ⟨v8073, v8075, rfl, rfl, rfl⟩
      refine ⟨⟨trivial, ⟨⟨2, rfl⟩, ⟨3, rfl⟩, trivial⟩, trivial⟩, ?_⟩
      exact VA.more ⟨0, [], [.row v8073 1 (r8068.map enc_str), .row v8075 2 (r8069.map enc55)], [(g8057, 27, [v1_0, v1_1, .int .i64 a1_2, .int .i64 a1_3, .int .i64 a1_4, v1_5, v1_6]), (g8056, 81, [.int .i64 a0_0, .int .i64 a0_1, .string a0_2])], []⟩ ⟨trivial, ⟨⟨0, rfl⟩, ⟨1, rfl⟩, trivial⟩, trivial⟩ <|
       aw 15 327679 rfl (mv rfl) ⟨⟨⟨0, rfl⟩, ⟨1, rfl⟩, trivial⟩, ⟨⟨2, rfl⟩, ⟨3, rfl⟩, trivial⟩, trivial⟩ <| aw 16 393215 rfl (op_extract rfl rfl) ⟨⟨⟨0, rfl⟩, ⟨1, rfl⟩, trivial⟩, ⟨⟨2, rfl⟩, ⟨3, rfl⟩, trivial⟩, trivial⟩ <|
       aw 17 524287 rfl (op_extract rfl rfl) ⟨⟨⟨0, rfl⟩, ⟨1, rfl⟩, trivial⟩, ⟨⟨2, rfl⟩, ⟨3, rfl⟩, trivial⟩, trivial⟩ <|
       VA.one1 (i := 19) (listed' := LB 21 1048575) (by kernel_rfl) rfl (o_store 0 2 rfl rfl rfl TI25 (.agg (.f 0 rfl (.f 1 rfl .nil))) rfl (len rfl)) rfl (by kernel_rfl) ⟨⟨⟨0, rfl⟩, ⟨1, rfl⟩, trivial⟩, ⟨⟨2, rfl⟩, ⟨3, rfl⟩, trivial⟩, trivial⟩ <|
       aw 20 2097151 rfl (ag rfl) ⟨⟨⟨0, rfl⟩, ⟨1, rfl⟩, trivial⟩, ⟨⟨2, rfl⟩, ⟨3, rfl⟩, trivial⟩, trivial⟩ <| VA.done (by kernel_rfl) <| VN.meet3 g8076 v8073 v8075 [0, 1] [] trivial ⟨rfl, ⟨rfl, rfl, trivial⟩, ⟨⟨0, rfl⟩, ⟨1, rfl⟩, trivial⟩, rfl, by decide, rfl, by decide⟩
    refine VAll.consG (listed' := LB 21 270079) rfl (o_alloc Z25 ZL25) rfl (by kernel_rfl) (fun _ => ⟨trivial, ⟨⟨2, rfl⟩, ⟨3, rfl⟩, trivial⟩, trivial⟩) ?_ VAll.nil
    intro g8076
    refine VA.oneC (i := 8) (listed' := LB 21 270335) (by kernel_rfl) rfl (o_call0 FO72 (journal_laid.ok k l1_0 l1_1 a0_0 a0_1 a0_2 v1_0 v1_1 r8059 r8060 hA8061) rfl rfl (ltn rfl) (All_of (.cons (mG 0 rfl) (.cons (mG 1 rfl) .nil)))) rfl (by kernel_rfl) <| ?_
    rintro _ _ _ ⟨v8063, v8065, rfl, rfl, rfl⟩
    refine ⟨⟨trivial, ⟨⟨2, rfl⟩, ⟨3, rfl⟩, trivial⟩, trivial⟩, ?_⟩
    refine VA.oneC (i := 13) (listed' := LB 21 278527) (by kernel_rfl) rfl (o_call0 FO70 (strings_Repeat.ok (⟨#[0]⟩ : ByteArray) 64 r8066 hA8067) rfl rfl (ltn rfl) (All_of .nil)) rfl (by kernel_rfl) <| ?_
    rintro _ _ _ ⟨rfl, rfl, rfl⟩
    refine ⟨⟨trivial, ⟨⟨2, rfl⟩, ⟨3, rfl⟩, trivial⟩, trivial⟩, ?_⟩
    refine VA.oneC (i := 14) (listed' := LB 21 294911) (by kernel_rfl) rfl (o_call0 FO38 (disk_Put.ok k r8059 r8060 ((wrap64 (a1_2 + 1)).tmod 2) r8066 v8063 v8065 r8068 r8069 t8070 hA8071) rfl rfl (ltn rfl) (All_of (.cons (mG 0 rfl) (.cons (mG 1 rfl) .nil)))) rfl (by kernel_rfl) <| ?_
    rintro _ _ _ ⟨v8073, v8075, rfl, rfl, rfl⟩
    refine ⟨⟨trivial, ⟨⟨2, rfl⟩, ⟨3, rfl⟩, trivial⟩, trivial⟩, ?_⟩
    exact VA.more ⟨0, [], [.row v8073 1 (r8068.map enc_str), .row v8075 2 (r8069.map enc55)], [(g8057, 27, [v1_0, v1_1, .int .i64 a1_2, .int .i64 a1_3, .int .i64 a1_4, v1_5, v1_6]), (g8056, 81, [.int .i64 a0_0, .int .i64 a0_1, .string a0_2])], []⟩ ⟨trivial, ⟨⟨0, rfl⟩, ⟨1, rfl⟩, trivial⟩, trivial⟩ <|
     aw 15 327679 rfl (mv rfl) ⟨⟨⟨0, rfl⟩, ⟨1, rfl⟩, trivial⟩, ⟨⟨2, rfl⟩, ⟨3, rfl⟩, trivial⟩, trivial⟩ <| aw 16 393215 rfl (op_extract rfl rfl) ⟨⟨⟨0, rfl⟩, ⟨1, rfl⟩, trivial⟩, ⟨⟨2, rfl⟩, ⟨3, rfl⟩, trivial⟩, trivial⟩ <|
     aw 17 524287 rfl (op_extract rfl rfl) ⟨⟨⟨0, rfl⟩, ⟨1, rfl⟩, trivial⟩, ⟨⟨2, rfl⟩, ⟨3, rfl⟩, trivial⟩, trivial⟩ <|
     VA.one1 (i := 19) (listed' := LB 21 1048575) (by kernel_rfl) rfl (o_store 0 2 rfl rfl rfl TI25 (.agg (.f 0 rfl (.f 1 rfl .nil))) rfl (len rfl)) rfl (by kernel_rfl) ⟨⟨⟨0, rfl⟩, ⟨1, rfl⟩, trivial⟩, ⟨⟨2, rfl⟩, ⟨3, rfl⟩, trivial⟩, trivial⟩ <|
     aw 20 2097151 rfl (ag rfl) ⟨⟨⟨0, rfl⟩, ⟨1, rfl⟩, trivial⟩, ⟨⟨2, rfl⟩, ⟨3, rfl⟩, trivial⟩, trivial⟩ <| VA.done (by kernel_rfl) <| VN.meet3 g8076 v8073 v8075 [0, 1] [] trivial ⟨rfl, ⟨rfl, rfl, trivial⟩, ⟨⟨0, rfl⟩, ⟨1, rfl⟩, trivial⟩, rfl, by decide, rfl, by decide⟩
  intro g8076 v8073 v8075 _
  refine sr <| va (op_load 0 2 rfl rfl TI25 rfl (fun h => absurd h (by decide))) <| s1 (o_store 1 2 rfl rfl rfl TI25 (.agg (.f 0 rfl (.f 1 rfl .nil))) rfl (len rfl)) <| dt <| VC.ret <| ?_
  simp only [Option.some.injEq, Prod.mk.injEq] at h
  obtain ⟨rfl, rfl⟩ := h
  exact VR.fn (rs := [.cell 4 25]) [.row v8073 1 (r8068.map enc_str), .row v8075 2 (r8069.map enc55)] [] [] rfl (.cell 1 rfl rfl TI25 (fun h => absurd h (by decide)) .nil) ⟨v8073, v8075, rfl, rfl, rfl⟩ ⟨⟨0, rfl⟩, ⟨1, rfl⟩, trivial⟩ rfl (by decide)

theorem journal_plan_second.ok (k : Nat) (a0_0 : Int) (a0_1 : Int) (a0_2 : ByteArray) (l1_0 : List ByteArray) (l1_1 : List S55) (a1_2 : Int) (a1_3 : Int) (a1_4 : Int) (l1_5 : List ByteArray) (l1_6 : List ByteArray) (v1_0 : Value) (v1_1 : Value) (v1_5 : Value) (v1_6 : Value) (r1 : List ByteArray) (r2 : List S55) (h : journal_plan_second.f k a0_0 a0_1 a0_2 l1_0 l1_1 a1_2 a1_3 a1_4 l1_5 l1_6 = some (r1, r2)) :
    VCalls Try.prog 49 [.agg #[.int .i64 a0_0, .int .i64 a0_1, .string a0_2], .agg #[v1_0, v1_1, .int .i64 a1_2, .int .i64 a1_3, .int .i64 a1_4, v1_5, v1_6]] [.row v1_0 1 (l1_0.map enc_str), .row v1_1 2 (l1_1.map enc55), .row v1_5 1 (l1_5.map enc_str), .row v1_6 1 (l1_6.map enc_str)] (fun v G own => ∃ w0 w1 : Value, v = .agg #[w0, w1] ∧ G = [.row w0 1 (r1.map enc_str), .row w1 2 (r2.map enc55)] ∧ own = []) := by
  refine VCalls.intro Try.func49 rfl (len rfl) fun E hC hW hD hU => ?_
  unfold journal_plan_second.f at h
  refine sr <| sG (o_box rfl (.agg (.of rfl))) fun g8109 => sG (o_box rfl (.agg (.f 0 rfl (.f 1 rfl (.c rfl (.c rfl (.c rfl (.f 2 rfl (.f 3 rfl .nil))))))))) fun g8110 => sG (o_alloc Z25 ZL25) fun g8111 => nx <| va (op_load 2 3 rfl rfl TI81 rfl (fun h => absurd h (by decide))) <|
   va (op_load 1 7 rfl rfl TI27 rfl (fun h => absurd h (by decide))) <| ?_
  replace h := bd h
  obtain ⟨⟨r8112, r8113⟩, hA8114, h⟩ := h
  dsimp only at h
  refine sC (o_call0 FO48 (journal_plan_first.ok k a0_0 a0_1 a0_2 l1_0 l1_1 a1_2 a1_3 a1_4 l1_5 l1_6 v1_0 v1_1 v1_5 v1_6 r8112 r8113 hA8114) rfl rfl (ltn rfl) (All_of (.cons (mG 0 rfl) (.cons (mG 1 rfl) (.cons (mG 2 rfl) (.cons (mG 3 rfl) .nil)))))) <| ?_
  rintro _ _ _ ⟨v8116, v8118, rfl, rfl, rfl⟩
  replace h := bd h
  obtain ⟨⟨r8119, r8120, t8121⟩, hA8122, h⟩ := h
  dsimp only at h
  refine sC (o_call0 FO41 (disk_Flush.ok k r8112 r8113 v8116 v8118 r8119 r8120 t8121 hA8122) rfl rfl (ltn rfl) (All_of (.cons (mG 0 rfl) (.cons (mG 1 rfl) .nil)))) <| ?_
  rintro _ _ _ ⟨v8124, v8126, rfl, rfl, rfl⟩
  refine vm rfl <| va (op_extract rfl rfl) <| va (op_extract rfl rfl) <| sG (o_alloc Z25 ZL25) fun g8127 => s1 (o_store 0 2 rfl rfl rfl TI25 (.agg (.r 0 rfl (.r 1 rfl .nil))) rfl (len rfl)) <| vs rfl <| nx <| va (op_fieldAddr FI27_1 rfl (add_at _ _ _)) <|
   va (op_load 2 1 rfl rfl TI3 rfl (by decide)) <| va (op_ari64 rfl rfl rfl) <| vs rfl <| dt <| ?_
  replace h := bd h
  obtain ⟨r8128, hA8129, h⟩ := h
  replace h := bd h
  obtain ⟨t8130, hA8131, h⟩ := h
  replace h := bd h
  obtain ⟨⟨r8132, r8133, t8134⟩, hA8135, h⟩ := h
  dsimp only at h
  refine VC.freezeRow' 0 rfl <| VC.freezeRow' 0 rfl <|
   VC.join2 (fun (v8137 : Value) (v8139 : Value) => ⟨37, [(4, .pointer (some ⟨g8111, 0, none⟩)), (5, .pointer (some ⟨g8127, 0, none⟩))], [.row v8137 1 (r8132.map enc_str), .row v8139 2 (r8133.map enc55)], [(g8127, 25, [v8137, v8139]), (g8111, 25, [.slice none 0 0, .slice none 0 0])], []⟩) (fun (v8137 : Value) (v8139 : Value) => True) ?_ ?_
  · refine VC.drawB ⟨0, [], [], [(g8109, 81, [.int .i64 a0_0, .int .i64 a0_1, .string a0_2])], []⟩ [18] ⟨0, [], [], [(g8127, 25, [v8124, v8126])], []⟩ (by kernel_rfl) rfl (by kernel_rfl) (n := 19) (listed := LB 19 0) <|
     VB.vb (i := 0) (listed' := LB 19 1) rfl (op_load 0 2 rfl rfl TI25 rfl (fun h => absurd h (by decide))) rfl (by kernel_rfl) (by kernel_rfl) (by kernel_rfl) (by kernel_rfl) (by kernel_rfl) (by kernel_rfl) (PartP.on ⟨trivial, ⟨⟨3, rfl⟩, trivial⟩, trivial⟩ ⟨trivial, ⟨⟨0, rfl⟩, trivial⟩, trivial⟩) (fun _ _ _ h => h) <|
     VB.va (i := 1) (listed' := LB 19 3) rfl (mv rfl) rfl (by kernel_rfl) (by kernel_rfl) (by kernel_rfl) (by kernel_rfl) (by decide) (PartP.on ⟨trivial, ⟨⟨3, rfl⟩, trivial⟩, trivial⟩ ⟨trivial, ⟨⟨0, rfl⟩, trivial⟩, trivial⟩) (fun _ _ _ h => h) <|
     VB.va (i := 2) (listed' := LB 19 7) rfl (op_rem rfl rfl (by decide) rfl) rfl (by kernel_rfl) (by kernel_rfl) (by kernel_rfl) (by kernel_rfl) (by decide) (PartP.on ⟨trivial, ⟨⟨3, rfl⟩, trivial⟩, trivial⟩ ⟨trivial, ⟨⟨0, rfl⟩, trivial⟩, trivial⟩) (fun _ _ _ h => h) <|
     VB.va (i := 3) (listed' := LB 19 15) rfl (mv rfl) rfl (by kernel_rfl) (by kernel_rfl) (by kernel_rfl) (by kernel_rfl) (by decide) (PartP.on ⟨trivial, ⟨⟨3, rfl⟩, trivial⟩, trivial⟩ ⟨trivial, ⟨⟨0, rfl⟩, trivial⟩, trivial⟩) (fun _ _ _ h => h) <|
     VB.va (i := 4) (listed' := LB 19 31) rfl (op_fieldAddr FI81_0 rfl (add_at _ _ _)) rfl (by kernel_rfl) (by kernel_rfl) (by kernel_rfl) (by kernel_rfl) (by decide) (PartP.on ⟨trivial, ⟨⟨3, rfl⟩, trivial⟩, trivial⟩ ⟨trivial, ⟨⟨0, rfl⟩, trivial⟩, trivial⟩) (fun _ _ _ h => h) <|
     VB.va (i := 5) (listed' := LB 19 63) rfl (op_load 0 1 rfl rfl TI3 rfl (by decide)) rfl (by kernel_rfl) (by kernel_rfl) (by kernel_rfl) (by kernel_rfl) (by decide) (PartP.on ⟨trivial, ⟨⟨3, rfl⟩, trivial⟩, trivial⟩ ⟨trivial, ⟨⟨0, rfl⟩, trivial⟩, trivial⟩) (fun _ _ _ h => h) <|
     VB.va (i := 6) (listed' := LB 19 127) rfl (op_fieldAddr FI81_1 rfl (add_at _ _ _)) rfl (by kernel_rfl) (by kernel_rfl) (by kernel_rfl) (by kernel_rfl) (by decide) (PartP.on ⟨trivial, ⟨⟨3, rfl⟩, trivial⟩, trivial⟩ ⟨trivial, ⟨⟨0, rfl⟩, trivial⟩, trivial⟩) (fun _ _ _ h => h) <|
     VB.va (i := 7) (listed' := LB 19 255) rfl (op_load 0 1 rfl rfl TI3 rfl (by decide)) rfl (by kernel_rfl) (by kernel_rfl) (by kernel_rfl) (by kernel_rfl) (by decide) (PartP.on ⟨trivial, ⟨⟨3, rfl⟩, trivial⟩, trivial⟩ ⟨trivial, ⟨⟨0, rfl⟩, trivial⟩, trivial⟩) (fun _ _ _ h => h) <|
     VB.va (i := 8) (listed' := LB 19 511) rfl (op_fieldAddr FI81_2 rfl (add_at _ _ _)) rfl (by kernel_rfl) (by kernel_rfl) (by kernel_rfl) (by kernel_rfl) (by decide) (PartP.on ⟨trivial, ⟨⟨3, rfl⟩, trivial⟩, trivial⟩ ⟨trivial, ⟨⟨0, rfl⟩, trivial⟩, trivial⟩) (fun _ _ _ h => h) <|
     VB.va (i := 9) (listed' := LB 19 1023) rfl (op_load 0 1 rfl rfl TI9 rfl (by decide)) rfl (by kernel_rfl) (by kernel_rfl) (by kernel_rfl) (by kernel_rfl) (by decide) (PartP.on ⟨trivial, ⟨⟨3, rfl⟩, trivial⟩, trivial⟩ ⟨trivial, ⟨⟨0, rfl⟩, trivial⟩, trivial⟩) (fun _ _ _ h => h) <|
     VB.va (i := 10) (listed' := LB 19 2047) rfl (op_lens Try.underlying9 rfl) rfl (by kernel_rfl) (by kernel_rfl) (by kernel_rfl) (by kernel_rfl) (by decide) (PartP.on ⟨trivial, ⟨⟨3, rfl⟩, trivial⟩, trivial⟩ ⟨trivial, ⟨⟨0, rfl⟩, trivial⟩, trivial⟩) (fun _ _ _ h => h) <|
     VB.va (i := 11) (listed' := LB 19 4095) rfl (op_ari64 rfl rfl rfl) rfl (by kernel_rfl) (by kernel_rfl) (by kernel_rfl) (by kernel_rfl) (by decide) (PartP.on ⟨trivial, ⟨⟨3, rfl⟩, trivial⟩, trivial⟩ ⟨trivial, ⟨⟨0, rfl⟩, trivial⟩, trivial⟩) (fun _ _ _ h => h) <|
     VB.oneC (i := 12) (listed' := LB 19 8191) (by kernel_rfl) rfl (o_call0 FO39 (journal_headOf.ok k (wrap64 (a1_2 + 1)) a0_0 (wrap64 (a0_1 + (a0_2.size : Int))) r8128 hA8129) rfl rfl (ltn rfl) (All_of .nil)) rfl (by kernel_rfl) <| ?_
    rintro _ _ _ ⟨rfl, rfl, rfl⟩
    refine ⟨(PartP.on ⟨trivial, ⟨⟨3, rfl⟩, trivial⟩, trivial⟩ ⟨trivial, ⟨⟨0, rfl⟩, trivial⟩, trivial⟩), ?_⟩
    refine VB.oneC (i := 13) (listed' := LB 19 16383) (by kernel_rfl) rfl (o_call0 FO40 (journal_head_sector.ok r8128 t8130 hA8131) rfl rfl (ltn rfl) (All_of .nil)) rfl (by kernel_rfl) <| ?_
    rintro _ _ _ ⟨rfl, rfl, rfl⟩
    refine ⟨(PartP.on ⟨trivial, ⟨⟨3, rfl⟩, trivial⟩, trivial⟩ ⟨trivial, ⟨⟨0, rfl⟩, trivial⟩, trivial⟩), ?_⟩
    refine VB.oneC (i := 14) (listed' := LB 19 32767) (by kernel_rfl) rfl (o_call0 FO38 (disk_Put.ok k r8119 r8120 ((wrap64 (a1_2 + 1)).tmod 2) t8130 v8124 v8126 r8132 r8133 t8134 hA8135) rfl rfl (ltn rfl) (All_of (.cons (mG 1 rfl) (.cons (mG 0 rfl) .nil)))) rfl (by kernel_rfl) <| ?_
    rintro _ _ _ ⟨v8137, v8139, rfl, rfl, rfl⟩
    refine ⟨(PartP.on ⟨trivial, ⟨⟨3, rfl⟩, trivial⟩, trivial⟩ ⟨trivial, ⟨⟨0, rfl⟩, trivial⟩, trivial⟩), ?_⟩
    exact VB.more ⟨0, [], [.row v8137 1 (r8132.map enc_str), .row v8139 2 (r8133.map enc55)], [(g8109, 81, [.int .i64 a0_0, .int .i64 a0_1, .string a0_2])], []⟩ ⟨trivial, ⟨⟨0, rfl⟩, trivial⟩, trivial⟩ <|
     VB.va (i := 15) (listed' := LB 19 65535) rfl (mv rfl) rfl (by kernel_rfl) (by kernel_rfl) (by kernel_rfl) (by kernel_rfl) (by decide) (PartP.on ⟨⟨⟨0, rfl⟩, ⟨1, rfl⟩, trivial⟩, ⟨⟨3, rfl⟩, trivial⟩, trivial⟩ ⟨trivial, ⟨⟨0, rfl⟩, trivial⟩, trivial⟩) (fun _ _ _ h => h) <|
     VB.va (i := 16) (listed' := LB 19 131071) rfl (op_extract rfl rfl) rfl (by kernel_rfl) (by kernel_rfl) (by kernel_rfl) (by kernel_rfl) (by decide) (PartP.on ⟨⟨⟨0, rfl⟩, ⟨1, rfl⟩, trivial⟩, ⟨⟨3, rfl⟩, trivial⟩, trivial⟩ ⟨trivial, ⟨⟨0, rfl⟩, trivial⟩, trivial⟩) (fun _ _ _ h => h) <|
     VB.va (i := 17) (listed' := LB 19 262143) rfl (op_extract rfl rfl) rfl (by kernel_rfl) (by kernel_rfl) (by kernel_rfl) (by kernel_rfl) (by decide) (PartP.on ⟨⟨⟨0, rfl⟩, ⟨1, rfl⟩, trivial⟩, ⟨⟨3, rfl⟩, trivial⟩, trivial⟩ ⟨trivial, ⟨⟨0, rfl⟩, trivial⟩, trivial⟩) (fun _ _ _ h => h) <|
     VB.one1 (i := 18) (listed' := LB 19 524287) (by kernel_rfl) rfl (o_store 0 2 rfl rfl rfl TI25 (.agg (.f 0 rfl (.f 1 rfl .nil))) rfl (len rfl)) rfl (by kernel_rfl) (PartP.off (by kernel_rfl) ⟨⟨⟨0, rfl⟩, ⟨1, rfl⟩, trivial⟩, ⟨⟨3, rfl⟩, trivial⟩, trivial⟩) <| VB.done (by kernel_rfl) <|
     VN.meet2 v8137 v8139 [0, 1] [] trivial ⟨rfl, ⟨rfl, rfl, trivial⟩, ⟨⟨0, rfl⟩, ⟨1, rfl⟩, trivial⟩, rfl, by decide, rfl, by decide⟩
  intro v8137 v8139 _
  refine sr <| va (op_load 0 2 rfl rfl TI25 rfl (fun h => absurd h (by decide))) <| s1 (o_store 1 2 rfl rfl rfl TI25 (.agg (.f 0 rfl (.f 1 rfl .nil))) rfl (len rfl)) <| dt <| VC.ret <| ?_
  simp only [Option.some.injEq, Prod.mk.injEq] at h
  obtain ⟨rfl, rfl⟩ := h
  exact VR.fn (rs := [.cell 4 25]) [.row v8137 1 (r8132.map enc_str), .row v8139 2 (r8133.map enc55)] [] [] rfl (.cell 1 rfl rfl TI25 (fun h => absurd h (by decide)) .nil) ⟨v8137, v8139, rfl, rfl, rfl⟩ ⟨⟨0, rfl⟩, ⟨1, rfl⟩, trivial⟩ rfl (by decide)

theorem journal_plan_sealed.ok (k : Nat) (a0_0 : Int) (a0_1 : Int) (a0_2 : ByteArray) (l1_0 : List ByteArray) (l1_1 : List S55) (a1_2 : Int) (a1_3 : Int) (a1_4 : Int) (l1_5 : List ByteArray) (l1_6 : List ByteArray) (v1_0 : Value) (v1_1 : Value) (v1_5 : Value) (v1_6 : Value) (r1 : List ByteArray) (r2 : List S55) (r3 : Int) (r4 : Int) (r5 : Int) (r6 : List ByteArray) (r7 : List ByteArray) (r8 : Int) (h : journal_plan_sealed.f k a0_0 a0_1 a0_2 l1_0 l1_1 a1_2 a1_3 a1_4 l1_5 l1_6 = some (r1, r2, r3, r4, r5, r6, r7, r8)) :
    VCalls Try.prog 45 [.agg #[.int .i64 a0_0, .int .i64 a0_1, .string a0_2], .agg #[v1_0, v1_1, .int .i64 a1_2, .int .i64 a1_3, .int .i64 a1_4, v1_5, v1_6]] [.row v1_0 1 (l1_0.map enc_str), .row v1_1 2 (l1_1.map enc55), .row v1_5 1 (l1_5.map enc_str), .row v1_6 1 (l1_6.map enc_str)] (fun v G own => ∃ w0 w1 w5 w6 : Value, v = .tuple #[.agg #[w0, w1, .int .i64 r3, .int .i64 r4, .int .i64 r5, w5, w6], .int .i64 r8] ∧ G = [.row w0 1 (r1.map enc_str), .row w1 2 (r2.map enc55)] ∧ own = [(w5, 9, 1, r6.map enc_str), (w6, 9, 1, r7.map enc_str)]) := by
  refine VCalls.intro Try.func45 rfl (len rfl) fun E hC hW hD hU => ?_
  unfold journal_plan_sealed.f at h
  refine sr <| sG (o_box rfl (.agg (.of rfl))) fun g8177 => sG (o_box rfl (.agg (.f 0 rfl (.f 1 rfl (.c rfl (.c rfl (.c rfl (.f 2 rfl (.f 3 rfl .nil))))))))) fun g8178 => sG (o_alloc Z27 ZL27) fun g8179 => vs rfl <| nx <| va (op_load 2 3 rfl rfl TI81 rfl (fun h => absurd h (by decide))) <|
   va (op_load 1 7 rfl rfl TI27 rfl (fun h => absurd h (by decide))) <| ?_
  replace h := bd h
  obtain ⟨⟨r8180, r8181⟩, hA8182, h⟩ := h
  dsimp only at h
  refine sC (o_call0 FO49 (journal_plan_second.ok k a0_0 a0_1 a0_2 l1_0 l1_1 a1_2 a1_3 a1_4 l1_5 l1_6 v1_0 v1_1 v1_5 v1_6 r8180 r8181 hA8182) rfl rfl (ltn rfl) (All_of (.cons (mG 0 rfl) (.cons (mG 1 rfl) (.cons (mG 2 rfl) (.cons (mG 3 rfl) .nil)))))) <| ?_
  rintro _ _ _ ⟨v8184, v8186, rfl, rfl, rfl⟩
  replace h := bd h
  obtain ⟨⟨r8187, r8188, t8189⟩, hA8190, h⟩ := h
  dsimp only at h
  refine sC (o_call0 FO41 (disk_Flush.ok k r8180 r8181 v8184 v8186 r8187 r8188 t8189 hA8190) rfl rfl (ltn rfl) (All_of (.cons (mG 0 rfl) (.cons (mG 1 rfl) .nil)))) <| ?_
  rintro _ _ _ ⟨v8192, v8194, rfl, rfl, rfl⟩
  refine vm rfl <| va (op_extract rfl rfl) <| va (op_extract rfl rfl) <| sG (o_alloc Z25 ZL25) fun g8195 => s1 (o_store 0 2 rfl rfl rfl TI25 (.agg (.r 0 rfl (.r 1 rfl .nil))) rfl (len rfl)) <| vs rfl <| nx <| va (op_load 0 2 rfl rfl TI25 rfl (fun h => absurd h (by decide))) <| VL.freezeRow' 0 rfl <|
   VL.freezeRow' 0 rfl <| ?_
  replace h := bd h
  obtain ⟨⟨r8196, r8197, t8198, t8199, t8200, r8201, r8202, t8203⟩, hA8204, h⟩ := h
  dsimp only at h
  refine sC (o_call0 FO9 (journal_Open.ok k r8187 r8188 v8192 v8194 r8196 r8197 t8198 t8199 t8200 r8201 r8202 t8203 hA8204) rfl rfl (ltn rfl) (All_of (.cons (mG 1 rfl) (.cons (mG 0 rfl) .nil)))) <| ?_
  rintro _ _ _ ⟨v8206, v8208, v8210, v8212, rfl, rfl, rfl⟩
  refine va (op_extract rfl rfl) <| va (op_extract rfl rfl) <| s1 (o_store 1 7 rfl rfl rfl TI27 (.agg (.f 0 rfl (.f 1 rfl (.c rfl (.c rfl (.c rfl (.r 0 rfl (.r 1 rfl .nil)))))))) rfl (len rfl)) <| vs rfl <| dt <| VC.ret <| ?_
  simp only [Option.some.injEq, Prod.mk.injEq] at h
  obtain ⟨rfl, rfl, rfl, rfl, rfl, rfl, rfl, rfl⟩ := h
  exact VR.fn (rs := [.cell 4 27, .tmp 5]) [.row v8206 1 (r8196.map enc_str), .row v8208 2 (r8197.map enc55)] [(v8210, 9, 1, r8201.map enc_str), (v8212, 9, 1, r8202.map enc_str)] [0, 1] rfl (.cell 1 rfl rfl TI27 (fun h => absurd h (by decide)) (.tmp rfl .nil)) ⟨v8206, v8208, v8210, v8212, rfl, rfl, rfl⟩ ⟨⟨0, rfl⟩, ⟨1, rfl⟩, trivial⟩ rfl (by decide)

end Go.Proofs.Ytipeglbeongfmaa.PJournalLives
