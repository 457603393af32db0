/- Written by a program of this repo: what the program's functions do, each as a Lean function, shown of the loaded code; or a statement's row over that; no condition of its own. -/
import Derived.Test.YtipeglbeongfmaaGreatPJournalCrashesx18
namespace Go.Proofs.YtipeglbeongfmaaGreat.PJournalCrashes
open Go Go.RowKit Go.Proofs.YtipeglbeongfmaaGreatV
set_option linter.unusedVariables false
set_option linter.unusedSimpArgs false
set_option maxHeartbeats 4000000
set_option maxRecDepth 100000

theorem tarryref05_Second.ok (k : Nat) (l0_0 : List ByteArray) (l0_1 : List S71) (a0_2 : Int) (a0_3 : Int) (a0_4 : Int) (l0_5 : List ByteArray) (l0_6 : List ByteArray) (a1 : Int) (a2 : Int) (a3 : ByteArray) (v0_0 : Value) (v0_1 : Value) (v0_5 : Value) (v0_6 : Value) (r1 : List ByteArray) (r2 : List S71) (h : tarryref05_Second.f k l0_0 l0_1 a0_2 a0_3 a0_4 l0_5 l0_6 a1 a2 a3 = some (r1, r2)) :
    VCalls Tryz.prog 19 [.agg #[v0_0, v0_1, iv a0_2, iv a0_3, iv a0_4, v0_5, v0_6], iv a1, iv a2, .string a3] [.row v0_0 1 (l0_0.map enc_str), .row v0_1 2 (l0_1.map enc71), .row v0_5 1 (l0_5.map enc_str), .row v0_6 1 (l0_6.map enc_str)] (fun v G own => ∃ w0 w1 : Value, v = .agg #[w0, w1] ∧ G = [.row w0 1 (r1.map enc_str)] ∧ own = [(w1, 72, 2, r2.map enc71)]) := by
  refine VCalls.intro Tryz.func19 rfl (len rfl) fun E hC hW hD hU => ?_
  unfold tarryref05_Second.f at h
  refine sr <| sG (o_box rfl (.agg (.f 0 rfl (.f 1 rfl (.c rfl (.c rfl (.c rfl (.f 2 rfl (.f 3 rfl .nil))))))))) fun g33000 => sG (o_alloc Z25 ZL25) fun g33001 => nx <| va (op_load 1 7 rfl rfl TI27 rfl (fun h => absurd h (by decide))) <| vm rfl <| vm rfl <| vm rfl <| ?_
  replace h := bd h
  obtain ⟨⟨r33002, r33003⟩, hA33004, h⟩ := h
  dsimp only at h
  refine sC (o_call0 FO18 (tarryref05_First.ok k l0_0 l0_1 a0_2 a0_3 a0_4 l0_5 l0_6 a1 a2 a3 v0_0 v0_1 v0_5 v0_6 r33002 r33003 hA33004) rfl rfl (ltn rfl) (All_of (.cons (mG 0 rfl) (.cons (mG 1 rfl) (.cons (mG 2 rfl) (.cons (mG 3 rfl) .nil)))))) <| ?_
  rintro _ _ _ ⟨v33006, v33008, rfl, rfl, rfl⟩
  refine VL.freezeRow' 0 rfl <| ?_
  replace h := bd h
  obtain ⟨⟨r33009, r33010⟩, hA33011, h⟩ := h
  dsimp only at h
  refine sC (o_call0 FO34 (tarryref05_flush.ok k r33002 r33003 v33006 v33008 r33009 r33010 hA33011) rfl rfl (ltn rfl) (All_of (.cons (mG 1 rfl) (.cons (mG 0 rfl) .nil)))) <| ?_
  rintro _ _ _ ⟨v33013, v33015, rfl, rfl, rfl⟩
  refine sG (o_alloc Z25 ZL25) fun g33016 => s1 (o_store 0 2 rfl rfl rfl TI25 (.agg (.f 0 rfl (.r 0 rfl .nil))) rfl (len rfl)) <| dt <| ?_
  replace h := bd h
  obtain ⟨t33017, hA33018, h⟩ := h
  replace h := bd h
  obtain ⟨⟨r33019, r33020⟩, hA33021, h⟩ := h
  dsimp only at h
  refine VC.freezeRow' 0 rfl <| VC.join2 (fun (v33023 : Value) (v33025 : Value) => ⟨31, [(8, pt g33001 0)], [.row v33023 1 (r33019.map enc_str)], [(g33001, 25, [v33023, v33025])], [(v33025, 72, 2, r33020.map enc71)]⟩) (fun (v33023 : Value) (v33025 : Value) => True) ?_ ?_
  · refine dw ⟨0, [], [], [(g33016, 25, [v33013, v33015]), (g33000, 27, [v0_0, v0_1, iv a0_2, iv a0_3, iv a0_4, v0_5, v0_6])], []⟩ 16 <| av 0 1 rfl (op_load 0 2 rfl rfl TI25 rfl (fun h => absurd h (by decide))) <| av 1 3 rfl (op_fieldAddr FI27_1 rfl (add_at _ _ _)) <|
     av 2 7 rfl (op_load 1 1 rfl rfl TI3 rfl (by decide)) <| av 3 15 rfl (op_ari64 rfl rfl rfl) <| av 4 31 rfl (op_rem rfl rfl (by decide) rfl) <| av 5 63 rfl (op_fieldAddr FI27_1 rfl (add_at _ _ _)) <| av 6 127 rfl (op_load 1 1 rfl rfl TI3 rfl (by decide)) <| av 7 255 rfl (op_ari64 rfl rfl rfl) <|
     av 8 511 rfl (mv rfl) <| av 9 1023 rfl (mv rfl) <| av 10 2047 rfl (mv rfl) <| av 11 4095 rfl (op_lens Tryz.underlying9 rfl) <| av 12 8191 rfl (op_ari64 rfl rfl rfl) <|
     aC 13 16383 rfl (o_call0 FO43 (tarryref05_Head.ok k (wrap64 (a0_2 + 1)) a1 (wrap64 (a2 + (a3.size : Int))) t33017 hA33018) rfl rfl (ltn rfl) (All_of .nil)) <| ?_
    rintro _ _ _ ⟨rfl, rfl, rfl⟩
    refine ⟨⟨trivial, ⟨⟨0, rfl⟩, ⟨2, rfl⟩, trivial⟩, trivial⟩, ?_⟩
    refine aC 14 32767 rfl (o_call0 FO41 (tarryref05_put.ok r33009 r33010 ((wrap64 (a0_2 + 1)).tmod 2) t33017 v33013 v33015 r33019 r33020 hA33021) rfl rfl (ltn rfl) (All_of (.cons (mG 1 rfl) (.cons (mG 0 rfl) .nil)))) <| ?_
    rintro _ _ _ ⟨v33023, v33025, rfl, rfl, rfl⟩
    refine ⟨⟨trivial, ⟨⟨0, rfl⟩, ⟨2, rfl⟩, trivial⟩, trivial⟩, ?_⟩
    exact aO 15 65535 rfl (o_store 1 2 rfl rfl rfl TI25 (.agg (.f 0 rfl (.r 0 rfl .nil))) rfl (len rfl)) <| ad <| VN.meet2 v33023 v33025 [1] [0] trivial
  intro v33023 v33025 _
  refine VC.ret <| ?_
  simp only [Option.some.injEq, Prod.mk.injEq] at h
  obtain ⟨rfl, rfl⟩ := h
  exact rf [.cell 8 25] [0] (.cell 0 rfl rfl TI25 (fun h => absurd h (by decide)) .nil) ⟨v33023, v33025, rfl, rfl, rfl⟩

theorem tarryref03_Like.ok (k : Nat) (l0_0 : List ByteArray) (l0_1 : List S71) (l1_0 : List ByteArray) (l1_1 : List S71) (v0_0 : Value) (v0_1 : Value) (v1_0 : Value) (v1_1 : Value) (r1 : Bool) (h : tarryref03_Like.f k l0_0 l0_1 l1_0 l1_1 = some r1) :
    VCalls Tryz.prog 20 [.agg #[v0_0, v0_1], .agg #[v1_0, v1_1]] [.row v0_0 1 (l0_0.map enc_str), .row v0_1 2 (l0_1.map enc71), .row v1_0 1 (l1_0.map enc_str), .row v1_1 2 (l1_1.map enc71)] (fun v G own => v = .bool r1 ∧ G = [] ∧ own = []) := by
  refine VCalls.intro Tryz.func20 rfl (len rfl) fun E hC hW hD hU => ?_
  unfold tarryref03_Like.f at h
  refine sr <| sG (o_box rfl (.agg (.f 0 rfl (.f 1 rfl .nil)))) fun g33057 => sG (o_box rfl (.agg (.f 2 rfl (.f 3 rfl .nil)))) fun g33058 => vs rfl <| ds <| sr <| va (op_fieldAddr FI25_0 rfl (add_at _ _ _)) <| va (op_load 1 1 rfl rfl TI22 rfl (by decide)) <|
   va (op_len (m := l0_0.length) 0 lenm Tryz.underlying22 rfl rfl) <| va (op_fieldAddr FI25_0 rfl (add_at _ _ _)) <| va (op_load 0 1 rfl rfl TI22 rfl (by decide)) <| va (op_len (m := l1_0.length) 2 lenm Tryz.underlying22 rfl rfl) <|
   VL.letter (((l0_0.length : Int) != (l1_0.length : Int))) fun b33069 hb33069 => va (op_cmp rfl rfl (congrArg some hb33069)) <| vm rfl <| ?_
  replace h := iC h
  rcases h with ⟨c33070, h⟩ | ⟨c33070, h⟩
  · obtain rfl : b33069 = false := hb33069.symm.trans (bne_eq_false_iff_eq.2 c33070)
    refine va (op_fieldAddr FI25_1 rfl (add_at _ _ _)) <| va (op_load 1 1 rfl rfl TI23 rfl (by decide)) <| va (op_len (m := l0_1.length) 1 lenm Tryz.underlying23 rfl rfl) <| va (op_fieldAddr FI25_1 rfl (add_at _ _ _)) <| va (op_load 0 1 rfl rfl TI23 rfl (by decide)) <|
     va (op_len (m := l1_1.length) 3 lenm Tryz.underlying23 rfl rfl) <| VL.letter (((l0_1.length : Int) != (l1_1.length : Int))) fun b33071 hb33071 => va (op_cmp rfl rfl (congrArg some hb33071)) <| va (op_pick rfl rfl) <| dt <| ?_
    replace h := iC h
    rcases h with ⟨c33072, h⟩ | ⟨c33072, h⟩
    · obtain rfl : b33071 = false := hb33071.symm.trans (bne_eq_false_iff_eq.2 c33072)
      refine cf <| sk <| sq <| sr <| va (op_fieldAddr FI25_0 rfl (add_at _ _ _)) <| va (op_load 1 1 rfl rfl TI22 rfl (by decide)) <| va (op_len (m := l0_0.length) 0 lenm Tryz.underlying22 rfl rfl) <| vm rfl <| dt <| VC.block <|
       VC.loop1 (fun (i33126 : Int) => ⟨59, [(2, pt g33057 0), (3, pt g33058 0), (4, .bool false), (25, iv (l0_0.length : Int)), (26, iv i33126)], [.row v1_0 1 (l1_0.map enc_str), .row v1_1 2 (l1_1.map enc71), .row v0_0 1 (l0_0.map enc_str), .row v0_1 2 (l0_1.map enc71)], [(g33058, 25, [v1_0, v1_1]), (g33057, 25, [v0_0, v0_1])], []⟩) (fun (ml1 : Nat) (i33126 : Int) => tarryref03_Like.l1 k l0_0 l0_1 l1_0 l1_1 ml1 i33126 = some r1) k 0 [0, 1] [] h ⟨rfl, ⟨rfl, rfl, rfl, rfl, rfl, trivial⟩, ⟨⟨2, rfl⟩, ⟨3, rfl⟩, ⟨0, rfl⟩, ⟨1, rfl⟩, trivial⟩, rfl, by decide, rfl, by decide⟩ (by intros; simp [tarryref03_Like.l1]) <|
       ?_
      clear h
      intro ml1 ihl1 i33126 h
      simp only [tarryref03_Like.l1] at h
      refine sr <| VL.letter (decide (i33126 < (l0_0.length : Int))) fun b33140 hb33140 => va (op_cmp rfl rfl (congrArg some hb33140)) <| ds <| ?_
      replace h := iC h
      rcases h with ⟨c33222, h⟩ | ⟨c33222, h⟩
      · cases lT c33222 hb33140
        refine ct <| sk <| sq <| VC.block <| sr <| vm rfl <| vs rfl <| dt <| ?_
        replace h := iN h
        obtain ⟨c33228, h⟩ := h
        replace h := bd h
        obtain ⟨x33229, hx33229, h⟩ := h
        replace h := bd h
        obtain ⟨x33230, hx33230, h⟩ := h
        refine VC.letter ((x33229 != x33230)) fun b33231 hb33231 => VC.open (m := l0_0.length) 2 lenm rfl (pos_get hx33229) <| ?_
        rintro ad33077 n33078 rfl
        refine VC.open (m := l1_0.length) 0 lenm rfl (pos_get hx33230) <| ?_
        rintro ad33080 n33081 rfl
        refine VC.join0 (⟨59, [(2, pt g33057 0), (3, pt g33058 0), (4, .bool false), (5, iv i33126), (25, iv (l0_0.length : Int)), (26, iv i33126), (27, .bool true), (28, iv i33126), (29, pt g33057 0), (30, (.slice (some ad33077) l0_0.length n33078)), (31, iv i33126), (33, .string x33229), (34, pt g33058 0), (35, (.slice (some ad33080) l1_0.length n33081)), (36, iv i33126), (38, .string x33230), (39, .bool b33231)], [.row (.slice (some ad33080) l1_0.length n33081) 1 (l1_0.map enc_str), .row v1_1 2 (l1_1.map enc71), .row (.slice (some ad33077) l0_0.length n33078) 1 (l0_0.map enc_str), .row v0_1 2 (l0_1.map enc71)], [(g33058, 25, [(.slice (some ad33080) l1_0.length n33081), v1_1]), (g33057, 25, [(.slice (some ad33077) l0_0.length n33078), v0_1])], []⟩) (True) ?_ ?_
        · exact dw ⟨0, [], [.row (.slice (some ad33080) l1_0.length n33081) 1 (l1_0.map enc_str), .row (.slice (some ad33077) l0_0.length n33078) 1 (l0_0.map enc_str)], [(g33058, 25, [(.slice (some ad33080) l1_0.length n33081), v1_1]), (g33057, 25, [(.slice (some ad33077) l0_0.length n33078), v0_1])], []⟩ 11 <|
           av 0 1 rfl (op_fieldAddr FI25_0 rfl (add_at _ _ _)) <| av 1 3 rfl (op_load 1 1 rfl rfl TI22 rfl (by decide)) <| av 2 7 rfl (mv rfl) <| av 3 15 rfl (op_indexAddr Tryz.underlying22 TI9 rfl rfl c33228 (lt_get c33228 hx33229) rfl) <|
           av 4 31 rfl (op_load_row (sz := 1) (o := 0) 1 i33126.toNat 1 rfl rfl (get_map hx33229) TI9 rfl (by decide)) <| av 5 63 rfl (op_fieldAddr FI25_0 rfl (add_at _ _ _)) <| av 6 127 rfl (op_load 0 1 rfl rfl TI22 rfl (by decide)) <| av 7 255 rfl (mv rfl) <|
           av 8 511 rfl (op_indexAddr Tryz.underlying22 TI9 rfl rfl c33228 (lt_get c33228 hx33230) rfl) <| av 9 1023 rfl (op_load_row (sz := 1) (o := 0) 0 i33126.toNat 1 rfl rfl (get_map hx33230) TI9 rfl (by decide)) <| av 10 2047 rfl (op_cmps rfl rfl (congrArg some hb33231)) <| ad <|
           VN.meet0 [0, 1] [] trivial
        intro _
        replace h := iC h
        rcases h with ⟨c33232, h⟩ | ⟨c33232, h⟩
        · obtain rfl : b33231 = false := hb33231.symm.trans (bne_of_t c33232)
          refine cf <| VC.skip <| VN.block <| tr <| va (op_ari64 rfl rfl rfl) <| vm rfl <| dn <| VN.again [0, 1] [] (ihl1 (wrap64 (i33126 + 1)) h)
        obtain rfl : b33231 = true := hb33231.symm.trans (bne_of_f c33232)
        refine ct <| sr <| vs rfl <| dt <| VC.ret <| VR.block <| VR.then <| VR.then <| VR.block <| VR.then <| ?_
        obtain rfl := Option.some.inj h
        exact rq 4 rfl ⟨rfl, rfl, rfl⟩
      cases lF c33222 hb33140
      refine cf <| VC.exit <| VX.then <| VX.then <| VX.hit <| ts <| sr <| va (op_fieldAddr FI25_1 rfl (add_at _ _ _)) <| va (op_load 1 1 rfl rfl TI23 rfl (by decide)) <| va (op_len (m := l0_1.length) 3 lenm Tryz.underlying23 rfl rfl) <| vm rfl <| dt <| VC.block <|
       VC.loop1 (fun (i33282 : Int) => ⟨59, [(2, pt g33057 0), (3, pt g33058 0), (4, .bool false), (43, iv (l0_1.length : Int)), (44, iv i33282)], [.row v1_0 1 (l1_0.map enc_str), .row v1_1 2 (l1_1.map enc71), .row v0_0 1 (l0_0.map enc_str), .row v0_1 2 (l0_1.map enc71)], [(g33058, 25, [v1_0, v1_1]), (g33057, 25, [v0_0, v0_1])], []⟩) (fun (ml5 : Nat) (i33282 : Int) => tarryref03_Like.l5 k l0_1 l1_1 ml5 i33282 = some r1) k 0 [0, 1] [] h ⟨rfl, ⟨rfl, rfl, rfl, rfl, rfl, trivial⟩, ⟨⟨0, rfl⟩, ⟨1, rfl⟩, ⟨2, rfl⟩, ⟨3, rfl⟩, trivial⟩, rfl, by decide, rfl, by decide⟩ (by intros; simp [tarryref03_Like.l5]) <|
       ?_
      clear h
      intro ml5 ihl5 i33282 h
      simp only [tarryref03_Like.l5] at h
      refine sr <| VL.letter (decide (i33282 < (l0_1.length : Int))) fun b33296 hb33296 => va (op_cmp rfl rfl (congrArg some hb33296)) <| ds <| ?_
      replace h := iC h
      rcases h with ⟨c33298, h⟩ | ⟨c33298, h⟩
      · cases lT c33298 hb33296
        refine ct <| sk <| sq <| VC.block <| sr <| vm rfl <| vs rfl <| dt <| ?_
        replace h := iN h
        obtain ⟨c33304, h⟩ := h
        replace h := bd h
        obtain ⟨x33305, hx33305, h⟩ := h
        replace h := bd h
        obtain ⟨x33306, hx33306, h⟩ := h
        refine VC.letter ((!(((x33305.f0 == x33306.f0) && (x33305.f1 == x33306.f1))))) fun b33307 hb33307 => VC.open (m := l0_1.length) 3 lenm rfl (pos_get hx33305) <| ?_
        rintro ad33146 n33147 rfl
        refine VC.open (m := l1_1.length) 1 lenm rfl (pos_get hx33306) <| ?_
        rintro ad33149 n33150 rfl
        refine VC.join0 (⟨59, [(2, pt g33057 0), (3, pt g33058 0), (4, .bool false), (6, iv i33282), (43, iv (l0_1.length : Int)), (44, iv i33282), (45, .bool true), (46, iv i33282), (47, pt g33057 1), (48, (.slice (some ad33146) l0_1.length n33147)), (49, iv i33282), (51, .agg #[iv x33305.f0, .string x33305.f1]), (52, pt g33058 1), (53, (.slice (some ad33149) l1_1.length n33150)), (54, iv i33282), (56, .agg #[iv x33306.f0, .string x33306.f1]), (57, .bool b33307)], [.row v1_0 1 (l1_0.map enc_str), .row (.slice (some ad33149) l1_1.length n33150) 2 (l1_1.map enc71), .row v0_0 1 (l0_0.map enc_str), .row (.slice (some ad33146) l0_1.length n33147) 2 (l0_1.map enc71)], [(g33058, 25, [v1_0, (.slice (some ad33149) l1_1.length n33150)]), (g33057, 25, [v0_0, (.slice (some ad33146) l0_1.length n33147)])], []⟩) (True) ?_ ?_
        · exact dw ⟨0, [], [.row (.slice (some ad33149) l1_1.length n33150) 2 (l1_1.map enc71), .row (.slice (some ad33146) l0_1.length n33147) 2 (l0_1.map enc71)], [(g33058, 25, [v1_0, (.slice (some ad33149) l1_1.length n33150)]), (g33057, 25, [v0_0, (.slice (some ad33146) l0_1.length n33147)])], []⟩ 11 <|
           av 0 1 rfl (op_fieldAddr FI25_1 rfl (add_at _ _ _)) <| av 1 3 rfl (op_load 1 1 rfl rfl TI23 rfl (by decide)) <| av 2 7 rfl (mv rfl) <| av 3 15 rfl (op_indexAddr Tryz.underlying23 TI72 rfl rfl c33304 (lt_get c33304 hx33305) rfl) <|
           av 4 31 rfl (op_load_row (sz := 2) (o := 0) 1 i33282.toNat 2 rfl rfl (get_map hx33305) TI72 rfl (fun h => absurd h (by decide))) <| av 5 63 rfl (op_fieldAddr FI25_1 rfl (add_at _ _ _)) <| av 6 127 rfl (op_load 0 1 rfl rfl TI23 rfl (by decide)) <| av 7 255 rfl (mv rfl) <|
           av 8 511 rfl (op_indexAddr Tryz.underlying23 TI72 rfl rfl c33304 (lt_get c33304 hx33306) rfl) <| av 9 1023 rfl (op_load_row (sz := 2) (o := 0) 0 i33282.toNat 2 rfl rfl (get_map hx33306) TI72 rfl (fun h => absurd h (by decide))) <|
           av 10 2047 rfl (op_neS rfl rfl EG72 (EQ72 x33305.f0 x33305.f1 x33306.f0 x33306.f1) hb33307) <| ad <| VN.meet0 [0, 1] [] trivial
        intro _
        replace h := iC h
        rcases h with ⟨c33308, h⟩ | ⟨c33308, h⟩
        · obtain rfl : b33307 = false := hb33307.symm.trans (not_t c33308)
          refine cf <| VC.skip <| VN.block <| tr <| va (op_ari64 rfl rfl rfl) <| vm rfl <| dn <| VN.again [0, 1] [] (ihl5 (wrap64 (i33282 + 1)) h)
        obtain rfl : b33307 = true := hb33307.symm.trans (not_f c33308)
        refine ct <| sr <| vs rfl <| dt <| VC.ret <| VR.block <| VR.then <| VR.then <| VR.block <| VR.then <| ?_
        obtain rfl := Option.some.inj h
        exact rq 4 rfl ⟨rfl, rfl, rfl⟩
      cases lF c33298 hb33296
      refine cf <| VC.exit <| VX.then <| VX.then <| VX.hit <| tx <| vs rfl <| dt <| VC.ret <| ?_
      obtain rfl := Option.some.inj h
      exact rq 4 rfl ⟨rfl, rfl, rfl⟩
    obtain rfl : b33071 = true := hb33071.symm.trans (bne_iff_ne.2 c33072)
    refine ct <| sr <| vs rfl <| dt <| VC.ret <| VR.then <| ?_
    obtain rfl := Option.some.inj h
    exact rq 4 rfl ⟨rfl, rfl, rfl⟩
  obtain rfl : b33069 = true := hb33069.symm.trans (bne_iff_ne.2 c33070)
  refine un rfl <| un rfl <| un rfl <| un rfl <| un rfl <| un rfl <| un rfl <| va (op_pick rfl rfl) <| dt <| ct <| sr <| vs rfl <| dt <| VC.ret <| VR.then <| ?_
  obtain rfl := Option.some.inj h
  exact rq 4 rfl ⟨rfl, rfl, rfl⟩

end Go.Proofs.YtipeglbeongfmaaGreat.PJournalCrashes
