/- Written by a program of this repo: what the program's functions do, each as a Lean function, shown of the loaded code; or a statement's row over that; no condition of its own. -/
import Derived.Test.YtipeglbeongfmaaGreatPJournalSealsx17
namespace Go.Proofs.YtipeglbeongfmaaGreat.PJournalSeals
open Go Go.RowKit Go.Proofs.YtipeglbeongfmaaGreatV
set_option linter.unusedVariables false
set_option linter.unusedSimpArgs false
set_option maxHeartbeats 4000000
set_option maxRecDepth 100000

theorem tarryref03_Like.ok (k : Nat) (l0_0 : List ByteArray) (l0_1 : List S71) (l1_0 : List ByteArray) (l1_1 : List S71) (v0_0 : Value) (v0_1 : Value) (v1_0 : Value) (v1_1 : Value) (r1 : Bool) (h : tarryref03_Like.f k l0_0 l0_1 l1_0 l1_1 = some r1) :
    VCalls Tryz.prog 20 [.agg #[v0_0, v0_1], .agg #[v1_0, v1_1]] [.row v0_0 1 (l0_0.map enc_str), .row v0_1 2 (l0_1.map enc71), .row v1_0 1 (l1_0.map enc_str), .row v1_1 2 (l1_1.map enc71)] (fun v G own => v = .bool r1 ∧ G = [] ∧ own = []) := by
  refine VCalls.intro Tryz.func20 rfl (len rfl) fun E hC hW hD hU => ?_
  unfold tarryref03_Like.f at h
  refine sr <| sG (o_box rfl (.agg (.f 0 rfl (.f 1 rfl .nil)))) fun g27503 => sG (o_box rfl (.agg (.f 2 rfl (.f 3 rfl .nil)))) fun g27504 => vs rfl <| ds <| sr <| va (op_fieldAddr FI25_0 rfl (add_at _ _ _)) <| va (op_load 1 1 rfl rfl TI22 rfl (by decide)) <|
   va (op_len (m := l0_0.length) 0 lenm Tryz.underlying22 rfl rfl) <| va (op_fieldAddr FI25_0 rfl (add_at _ _ _)) <| va (op_load 0 1 rfl rfl TI22 rfl (by decide)) <| va (op_len (m := l1_0.length) 2 lenm Tryz.underlying22 rfl rfl) <|
   VL.letter (((l0_0.length : Int) != (l1_0.length : Int))) fun b27515 hb27515 => va (op_cmp rfl rfl (congrArg some hb27515)) <| vm rfl <| ?_
  replace h := iC h
  rcases h with ⟨c27516, h⟩ | ⟨c27516, h⟩
  · obtain rfl : b27515 = false := hb27515.symm.trans (bne_eq_false_iff_eq.2 c27516)
    refine va (op_fieldAddr FI25_1 rfl (add_at _ _ _)) <| va (op_load 1 1 rfl rfl TI23 rfl (by decide)) <| va (op_len (m := l0_1.length) 1 lenm Tryz.underlying23 rfl rfl) <| va (op_fieldAddr FI25_1 rfl (add_at _ _ _)) <| va (op_load 0 1 rfl rfl TI23 rfl (by decide)) <|
     va (op_len (m := l1_1.length) 3 lenm Tryz.underlying23 rfl rfl) <| VL.letter (((l0_1.length : Int) != (l1_1.length : Int))) fun b27517 hb27517 => va (op_cmp rfl rfl (congrArg some hb27517)) <| va (op_pick rfl rfl) <| dt <| ?_
    replace h := iC h
    rcases h with ⟨c27518, h⟩ | ⟨c27518, h⟩
    · obtain rfl : b27517 = false := hb27517.symm.trans (bne_eq_false_iff_eq.2 c27518)
      refine cf <| sk <| sq <| sr <| va (op_fieldAddr FI25_0 rfl (add_at _ _ _)) <| va (op_load 1 1 rfl rfl TI22 rfl (by decide)) <| va (op_len (m := l0_0.length) 0 lenm Tryz.underlying22 rfl rfl) <| vm rfl <| dt <| VC.block <|
       VC.loop1 (fun (i27572 : Int) => ⟨59, [(2, pt g27503 0), (3, pt g27504 0), (4, .bool false), (25, iv (l0_0.length : Int)), (26, iv i27572)], [.row v1_0 1 (l1_0.map enc_str), .row v1_1 2 (l1_1.map enc71), .row v0_0 1 (l0_0.map enc_str), .row v0_1 2 (l0_1.map enc71)], [(g27504, 25, [v1_0, v1_1]), (g27503, 25, [v0_0, v0_1])], []⟩) (fun (ml1 : Nat) (i27572 : Int) => tarryref03_Like.l1 k l0_0 l0_1 l1_0 l1_1 ml1 i27572 = some r1) k 0 [0, 1] [] h ⟨rfl, ⟨rfl, rfl, rfl, rfl, rfl, trivial⟩, ⟨⟨2, rfl⟩, ⟨3, rfl⟩, ⟨0, rfl⟩, ⟨1, rfl⟩, trivial⟩, rfl, by decide, rfl, by decide⟩ (by intros; simp [tarryref03_Like.l1]) <|
       ?_
      clear h
      intro ml1 ihl1 i27572 h
      simp only [tarryref03_Like.l1] at h
      refine sr <| VL.letter (decide (i27572 < (l0_0.length : Int))) fun b27586 hb27586 => va (op_cmp rfl rfl (congrArg some hb27586)) <| ds <| ?_
      replace h := iC h
      rcases h with ⟨c27668, h⟩ | ⟨c27668, h⟩
      · cases lT c27668 hb27586
        refine ct <| sk <| sq <| VC.block <| sr <| vm rfl <| vs rfl <| dt <| ?_
        replace h := iN h
        obtain ⟨c27674, h⟩ := h
        replace h := bd h
        obtain ⟨x27675, hx27675, h⟩ := h
        replace h := bd h
        obtain ⟨x27676, hx27676, h⟩ := h
        refine VC.letter ((x27675 != x27676)) fun b27677 hb27677 => VC.open (m := l0_0.length) 2 lenm rfl (pos_get hx27675) <| ?_
        rintro ad27523 n27524 rfl
        refine VC.open (m := l1_0.length) 0 lenm rfl (pos_get hx27676) <| ?_
        rintro ad27526 n27527 rfl
        refine VC.join0 (⟨59, [(2, pt g27503 0), (3, pt g27504 0), (4, .bool false), (5, iv i27572), (25, iv (l0_0.length : Int)), (26, iv i27572), (27, .bool true), (28, iv i27572), (29, pt g27503 0), (30, (.slice (some ad27523) l0_0.length n27524)), (31, iv i27572), (33, .string x27675), (34, pt g27504 0), (35, (.slice (some ad27526) l1_0.length n27527)), (36, iv i27572), (38, .string x27676), (39, .bool b27677)], [.row (.slice (some ad27526) l1_0.length n27527) 1 (l1_0.map enc_str), .row v1_1 2 (l1_1.map enc71), .row (.slice (some ad27523) l0_0.length n27524) 1 (l0_0.map enc_str), .row v0_1 2 (l0_1.map enc71)], [(g27504, 25, [(.slice (some ad27526) l1_0.length n27527), v1_1]), (g27503, 25, [(.slice (some ad27523) l0_0.length n27524), v0_1])], []⟩) (True) ?_ ?_
        · exact dw ⟨0, [], [.row (.slice (some ad27526) l1_0.length n27527) 1 (l1_0.map enc_str), .row (.slice (some ad27523) l0_0.length n27524) 1 (l0_0.map enc_str)], [(g27504, 25, [(.slice (some ad27526) l1_0.length n27527), v1_1]), (g27503, 25, [(.slice (some ad27523) l0_0.length n27524), v0_1])], []⟩ 11 <|
           av 0 1 rfl (op_fieldAddr FI25_0 rfl (add_at _ _ _)) <| av 1 3 rfl (op_load 1 1 rfl rfl TI22 rfl (by decide)) <| av 2 7 rfl (mv rfl) <| av 3 15 rfl (op_indexAddr Tryz.underlying22 TI9 rfl rfl c27674 (lt_get c27674 hx27675) rfl) <|
           av 4 31 rfl (op_load_row (sz := 1) (o := 0) 1 i27572.toNat 1 rfl rfl (get_map hx27675) TI9 rfl (by decide)) <| av 5 63 rfl (op_fieldAddr FI25_0 rfl (add_at _ _ _)) <| av 6 127 rfl (op_load 0 1 rfl rfl TI22 rfl (by decide)) <| av 7 255 rfl (mv rfl) <|
           av 8 511 rfl (op_indexAddr Tryz.underlying22 TI9 rfl rfl c27674 (lt_get c27674 hx27676) rfl) <| av 9 1023 rfl (op_load_row (sz := 1) (o := 0) 0 i27572.toNat 1 rfl rfl (get_map hx27676) TI9 rfl (by decide)) <| av 10 2047 rfl (op_cmps rfl rfl (congrArg some hb27677)) <| ad <|
           VN.meet0 [0, 1] [] trivial
        intro _
        replace h := iC h
        rcases h with ⟨c27678, h⟩ | ⟨c27678, h⟩
        · obtain rfl : b27677 = false := hb27677.symm.trans (bne_of_t c27678)
          refine cf <| VC.skip <| VN.block <| tr <| va (op_ari64 rfl rfl rfl) <| vm rfl <| dn <| VN.again [0, 1] [] (ihl1 (wrap64 (i27572 + 1)) h)
        obtain rfl : b27677 = true := hb27677.symm.trans (bne_of_f c27678)
        refine ct <| sr <| vs rfl <| dt <| VC.ret <| VR.block <| VR.then <| VR.then <| VR.block <| VR.then <| ?_
        obtain rfl := Option.some.inj h
        exact rq 4 rfl ⟨rfl, rfl, rfl⟩
      cases lF c27668 hb27586
      refine cf <| VC.exit <| VX.then <| VX.then <| VX.hit <| ts <| sr <| va (op_fieldAddr FI25_1 rfl (add_at _ _ _)) <| va (op_load 1 1 rfl rfl TI23 rfl (by decide)) <| va (op_len (m := l0_1.length) 3 lenm Tryz.underlying23 rfl rfl) <| vm rfl <| dt <| VC.block <|
       VC.loop1 (fun (i27728 : Int) => ⟨59, [(2, pt g27503 0), (3, pt g27504 0), (4, .bool false), (43, iv (l0_1.length : Int)), (44, iv i27728)], [.row v1_0 1 (l1_0.map enc_str), .row v1_1 2 (l1_1.map enc71), .row v0_0 1 (l0_0.map enc_str), .row v0_1 2 (l0_1.map enc71)], [(g27504, 25, [v1_0, v1_1]), (g27503, 25, [v0_0, v0_1])], []⟩) (fun (ml5 : Nat) (i27728 : Int) => tarryref03_Like.l5 k l0_1 l1_1 ml5 i27728 = some r1) k 0 [0, 1] [] h ⟨rfl, ⟨rfl, rfl, rfl, rfl, rfl, trivial⟩, ⟨⟨0, rfl⟩, ⟨1, rfl⟩, ⟨2, rfl⟩, ⟨3, rfl⟩, trivial⟩, rfl, by decide, rfl, by decide⟩ (by intros; simp [tarryref03_Like.l5]) <|
       ?_
      clear h
      intro ml5 ihl5 i27728 h
      simp only [tarryref03_Like.l5] at h
      refine sr <| VL.letter (decide (i27728 < (l0_1.length : Int))) fun b27742 hb27742 => va (op_cmp rfl rfl (congrArg some hb27742)) <| ds <| ?_
      replace h := iC h
      rcases h with ⟨c27744, h⟩ | ⟨c27744, h⟩
      · cases lT c27744 hb27742
        refine ct <| sk <| sq <| VC.block <| sr <| vm rfl <| vs rfl <| dt <| ?_
        replace h := iN h
        obtain ⟨c27750, h⟩ := h
        replace h := bd h
        obtain ⟨x27751, hx27751, h⟩ := h
        replace h := bd h
        obtain ⟨x27752, hx27752, h⟩ := h
        refine VC.letter ((!(((x27751.f0 == x27752.f0) && (x27751.f1 == x27752.f1))))) fun b27753 hb27753 => VC.open (m := l0_1.length) 3 lenm rfl (pos_get hx27751) <| ?_
        rintro ad27592 n27593 rfl
        refine VC.open (m := l1_1.length) 1 lenm rfl (pos_get hx27752) <| ?_
        rintro ad27595 n27596 rfl
        refine VC.join0 (⟨59, [(2, pt g27503 0), (3, pt g27504 0), (4, .bool false), (6, iv i27728), (43, iv (l0_1.length : Int)), (44, iv i27728), (45, .bool true), (46, iv i27728), (47, pt g27503 1), (48, (.slice (some ad27592) l0_1.length n27593)), (49, iv i27728), (51, .agg #[iv x27751.f0, .string x27751.f1]), (52, pt g27504 1), (53, (.slice (some ad27595) l1_1.length n27596)), (54, iv i27728), (56, .agg #[iv x27752.f0, .string x27752.f1]), (57, .bool b27753)], [.row v1_0 1 (l1_0.map enc_str), .row (.slice (some ad27595) l1_1.length n27596) 2 (l1_1.map enc71), .row v0_0 1 (l0_0.map enc_str), .row (.slice (some ad27592) l0_1.length n27593) 2 (l0_1.map enc71)], [(g27504, 25, [v1_0, (.slice (some ad27595) l1_1.length n27596)]), (g27503, 25, [v0_0, (.slice (some ad27592) l0_1.length n27593)])], []⟩) (True) ?_ ?_
        · exact dw ⟨0, [], [.row (.slice (some ad27595) l1_1.length n27596) 2 (l1_1.map enc71), .row (.slice (some ad27592) l0_1.length n27593) 2 (l0_1.map enc71)], [(g27504, 25, [v1_0, (.slice (some ad27595) l1_1.length n27596)]), (g27503, 25, [v0_0, (.slice (some ad27592) l0_1.length n27593)])], []⟩ 11 <|
           av 0 1 rfl (op_fieldAddr FI25_1 rfl (add_at _ _ _)) <| av 1 3 rfl (op_load 1 1 rfl rfl TI23 rfl (by decide)) <| av 2 7 rfl (mv rfl) <| av 3 15 rfl (op_indexAddr Tryz.underlying23 TI72 rfl rfl c27750 (lt_get c27750 hx27751) rfl) <|
           av 4 31 rfl (op_load_row (sz := 2) (o := 0) 1 i27728.toNat 2 rfl rfl (get_map hx27751) TI72 rfl (fun h => absurd h (by decide))) <| av 5 63 rfl (op_fieldAddr FI25_1 rfl (add_at _ _ _)) <| av 6 127 rfl (op_load 0 1 rfl rfl TI23 rfl (by decide)) <| av 7 255 rfl (mv rfl) <|
           av 8 511 rfl (op_indexAddr Tryz.underlying23 TI72 rfl rfl c27750 (lt_get c27750 hx27752) rfl) <| av 9 1023 rfl (op_load_row (sz := 2) (o := 0) 0 i27728.toNat 2 rfl rfl (get_map hx27752) TI72 rfl (fun h => absurd h (by decide))) <|
           av 10 2047 rfl (op_neS rfl rfl EG72 (EQ72 x27751.f0 x27751.f1 x27752.f0 x27752.f1) hb27753) <| ad <| VN.meet0 [0, 1] [] trivial
        intro _
        replace h := iC h
        rcases h with ⟨c27754, h⟩ | ⟨c27754, h⟩
        · obtain rfl : b27753 = false := hb27753.symm.trans (not_t c27754)
          refine cf <| VC.skip <| VN.block <| tr <| va (op_ari64 rfl rfl rfl) <| vm rfl <| dn <| VN.again [0, 1] [] (ihl5 (wrap64 (i27728 + 1)) h)
        obtain rfl : b27753 = true := hb27753.symm.trans (not_f c27754)
        refine ct <| sr <| vs rfl <| dt <| VC.ret <| VR.block <| VR.then <| VR.then <| VR.block <| VR.then <| ?_
        obtain rfl := Option.some.inj h
        exact rq 4 rfl ⟨rfl, rfl, rfl⟩
      cases lF c27744 hb27742
      refine cf <| VC.exit <| VX.then <| VX.then <| VX.hit <| tx <| vs rfl <| dt <| VC.ret <| ?_
      obtain rfl := Option.some.inj h
      exact rq 4 rfl ⟨rfl, rfl, rfl⟩
    obtain rfl : b27517 = true := hb27517.symm.trans (bne_iff_ne.2 c27518)
    refine ct <| sr <| vs rfl <| dt <| VC.ret <| VR.then <| ?_
    obtain rfl := Option.some.inj h
    exact rq 4 rfl ⟨rfl, rfl, rfl⟩
  obtain rfl : b27515 = true := hb27515.symm.trans (bne_iff_ne.2 c27516)
  refine un rfl <| un rfl <| un rfl <| un rfl <| un rfl <| un rfl <| un rfl <| va (op_pick rfl rfl) <| dt <| ct <| sr <| vs rfl <| dt <| VC.ret <| VR.then <| ?_
  obtain rfl := Option.some.inj h
  exact rq 4 rfl ⟨rfl, rfl, rfl⟩

theorem tarryref05_Like.ok (k : Nat) (l0_0 : List ByteArray) (l0_1 : List S71) (a0_2 : Int) (a0_3 : Int) (a0_4 : Int) (l0_5 : List ByteArray) (l0_6 : List ByteArray) (l1_0 : List ByteArray) (l1_1 : List S71) (a1_2 : Int) (a1_3 : Int) (a1_4 : Int) (l1_5 : List ByteArray) (l1_6 : List ByteArray) (v0_0 : Value) (v0_1 : Value) (v0_5 : Value) (v0_6 : Value) (v1_0 : Value) (v1_1 : Value) (v1_5 : Value) (v1_6 : Value) (r1 : Bool) (h : tarryref05_Like.f k l0_0 l0_1 a0_2 a0_3 a0_4 l0_5 l0_6 l1_0 l1_1 a1_2 a1_3 a1_4 l1_5 l1_6 = some r1) :
    VCalls Tryz.prog 11 [.agg #[v0_0, v0_1, iv a0_2, iv a0_3, iv a0_4, v0_5, v0_6], .agg #[v1_0, v1_1, iv a1_2, iv a1_3, iv a1_4, v1_5, v1_6]] [.row v0_0 1 (l0_0.map enc_str), .row v0_1 2 (l0_1.map enc71), .row v0_5 1 (l0_5.map enc_str), .row v0_6 1 (l0_6.map enc_str), .row v1_0 1 (l1_0.map enc_str), .row v1_1 2 (l1_1.map enc71), .row v1_5 1 (l1_5.map enc_str), .row v1_6 1 (l1_6.map enc_str)] (fun v G own => v = .bool r1 ∧ G = [] ∧ own = []) := by
  refine VCalls.intro Tryz.func11 rfl (len rfl) fun E hC hW hD hU => ?_
  unfold tarryref05_Like.f at h
  refine sr <| sG (o_box rfl (.agg (.f 0 rfl (.f 1 rfl (.c rfl (.c rfl (.c rfl (.f 2 rfl (.f 3 rfl .nil))))))))) fun g27485 => sG (o_box rfl (.agg (.f 4 rfl (.f 5 rfl (.c rfl (.c rfl (.c rfl (.f 6 rfl (.f 7 rfl .nil))))))))) fun g27486 => vs rfl <| nx <| va (op_fieldAddr FI27_1 rfl (add_at _ _ _)) <|
   va (op_load 1 1 rfl rfl TI3 rfl (by decide)) <| va (op_fieldAddr FI27_1 rfl (add_at _ _ _)) <| va (op_load 0 1 rfl rfl TI3 rfl (by decide)) <| VL.letter ((a0_2 == a1_2)) fun b27757 hb27757 => va (op_cmp rfl rfl (congrArg some hb27757)) <| vm rfl <| ?_
  replace h := iC h
  rcases h with ⟨c27758, h⟩ | ⟨c27758, h⟩
  · obtain rfl : b27757 = true := hb27757.symm.trans (beq_iff_eq.2 c27758)
    refine va (op_fieldAddr FI27_2 rfl (add_at _ _ _)) <| va (op_load 1 1 rfl rfl TI3 rfl (by decide)) <| va (op_fieldAddr FI27_2 rfl (add_at _ _ _)) <| va (op_load 0 1 rfl rfl TI3 rfl (by decide)) <| VL.letter ((a0_3 == a1_3)) fun b27759 hb27759 => va (op_cmp rfl rfl (congrArg some hb27759)) <|
     va (op_pick rfl rfl) <| vm rfl <| ?_
    replace h := iC h
    rcases h with ⟨c27760, h⟩ | ⟨c27760, h⟩
    · obtain rfl : b27759 = true := hb27759.symm.trans (beq_iff_eq.2 c27760)
      refine va (op_fieldAddr FI27_3 rfl (add_at _ _ _)) <| va (op_load 1 1 rfl rfl TI3 rfl (by decide)) <| va (op_fieldAddr FI27_3 rfl (add_at _ _ _)) <| va (op_load 0 1 rfl rfl TI3 rfl (by decide)) <| VL.letter ((a0_4 == a1_4)) fun b27761 hb27761 => va (op_cmp rfl rfl (congrArg some hb27761)) <|
       va (op_pick rfl rfl) <| vm rfl <| ?_
      replace h := iC h
      rcases h with ⟨c27762, h⟩ | ⟨c27762, h⟩
      · obtain rfl : b27761 = true := hb27761.symm.trans (beq_iff_eq.2 c27762)
        refine va (op_fieldAddr FI27_4 rfl (add_at _ _ _)) <| va (op_load 1 1 rfl rfl TI22 rfl (by decide)) <| va (op_fieldAddr FI27_4 rfl (add_at _ _ _)) <| va (op_load 0 1 rfl rfl TI22 rfl (by decide)) <| ?_
        replace h := bd h
        obtain ⟨t27763, hA27764, h⟩ := h
        refine sC (o_call0 FO33 (tarryref01_Same.ok k l0_5 l1_5 v0_5 v1_5 t27763 hA27764) rfl rfl (ltn rfl) (All_of (.cons (mG 2 rfl) (.cons (mG 6 rfl) .nil)))) <| ?_
        rintro _ _ _ ⟨rfl, rfl, rfl⟩
        refine va (op_pick rfl rfl) <| vm rfl <| ?_
        replace h := iC h
        rcases h with ⟨c27765, h⟩ | ⟨c27765, h⟩
        · obtain rfl := c27765
          refine va (op_fieldAddr FI27_5 rfl (add_at _ _ _)) <| va (op_load 1 1 rfl rfl TI22 rfl (by decide)) <| va (op_fieldAddr FI27_5 rfl (add_at _ _ _)) <| va (op_load 0 1 rfl rfl TI22 rfl (by decide)) <| ?_
          replace h := bd h
          obtain ⟨t27766, hA27767, h⟩ := h
          refine sC (o_call0 FO33 (tarryref01_Same.ok k l0_6 l1_6 v0_6 v1_6 t27766 hA27767) rfl rfl (ltn rfl) (All_of (.cons (mG 3 rfl) (.cons (mG 7 rfl) .nil)))) <| ?_
          rintro _ _ _ ⟨rfl, rfl, rfl⟩
          refine va (op_pick rfl rfl) <| vm rfl <| ?_
          replace h := iC h
          rcases h with ⟨c27768, h⟩ | ⟨c27768, h⟩
          · obtain rfl := c27768
            refine va (op_fieldAddr FI27_0 rfl (add_at _ _ _)) <| va (op_load 1 2 rfl rfl TI25 rfl (fun h => absurd h (by decide))) <| va (op_fieldAddr FI27_0 rfl (add_at _ _ _)) <| va (op_load 0 2 rfl rfl TI25 rfl (fun h => absurd h (by decide))) <| ?_
            replace h := bd h
            obtain ⟨t27769, hA27770, h⟩ := h
            refine sC (o_call0 FO20 (tarryref03_Like.ok k l0_0 l0_1 l1_0 l1_1 v0_0 v0_1 v1_0 v1_1 t27769 hA27770) rfl rfl (ltn rfl) (All_of (.cons (mG 0 rfl) (.cons (mG 1 rfl) (.cons (mG 4 rfl) (.cons (mG 5 rfl) .nil)))))) <| ?_
            rintro _ _ _ ⟨rfl, rfl, rfl⟩
            refine va (op_pick rfl rfl) <| vs rfl <| dt <| VC.ret <| ?_
            obtain rfl := Option.some.inj h
            exact rq 4 rfl ⟨rfl, rfl, rfl⟩
          obtain rfl := Bool.eq_false_iff.2 c27768
          refine un rfl <| un rfl <| un rfl <| un rfl <| un rfl <| va (op_pick rfl rfl) <| vs rfl <| dt <| VC.ret <| ?_
          obtain rfl := Option.some.inj h
          exact rq 4 rfl ⟨rfl, rfl, rfl⟩
        obtain rfl := Bool.eq_false_iff.2 c27765
        refine un rfl <| un rfl <| un rfl <| un rfl <| un rfl <| va (op_pick rfl rfl) <| vm rfl <| un rfl <| un rfl <| un rfl <| un rfl <| un rfl <| va (op_pick rfl rfl) <| vs rfl <| dt <| VC.ret <| ?_
        obtain rfl := Option.some.inj h
        exact rq 4 rfl ⟨rfl, rfl, rfl⟩
      obtain rfl : b27761 = false := hb27761.symm.trans (beq_eq_false_iff_ne.2 c27762)
      refine un rfl <| un rfl <| un rfl <| un rfl <| un rfl <| va (op_pick rfl rfl) <| vm rfl <| un rfl <| un rfl <| un rfl <| un rfl <| un rfl <| va (op_pick rfl rfl) <| vm rfl <| un rfl <| un rfl <| un rfl <| un rfl <| un rfl <| va (op_pick rfl rfl) <| vs rfl <| dt <| VC.ret <| ?_
      obtain rfl := Option.some.inj h
      exact rq 4 rfl ⟨rfl, rfl, rfl⟩
    obtain rfl : b27759 = false := hb27759.symm.trans (beq_eq_false_iff_ne.2 c27760)
    refine un rfl <| un rfl <| un rfl <| un rfl <| un rfl <| va (op_pick rfl rfl) <| vm rfl <| un rfl <| un rfl <| un rfl <| un rfl <| un rfl <| va (op_pick rfl rfl) <| vm rfl <| un rfl <| un rfl <| un rfl <| un rfl <| un rfl <| va (op_pick rfl rfl) <| vm rfl <| un rfl <| un rfl <| un rfl <| un rfl <|
     un rfl <| va (op_pick rfl rfl) <| vs rfl <| dt <| VC.ret <| ?_
    obtain rfl := Option.some.inj h
    exact rq 4 rfl ⟨rfl, rfl, rfl⟩
  obtain rfl : b27757 = false := hb27757.symm.trans (beq_eq_false_iff_ne.2 c27758)
  refine un rfl <| un rfl <| un rfl <| un rfl <| un rfl <| va (op_pick rfl rfl) <| vm rfl <| un rfl <| un rfl <| un rfl <| un rfl <| un rfl <| va (op_pick rfl rfl) <| vm rfl <| un rfl <| un rfl <| un rfl <| un rfl <| un rfl <| va (op_pick rfl rfl) <| vm rfl <| un rfl <| un rfl <| un rfl <| un rfl <|
   un rfl <| va (op_pick rfl rfl) <| vm rfl <| un rfl <| un rfl <| un rfl <| un rfl <| un rfl <| va (op_pick rfl rfl) <| vs rfl <| dt <| VC.ret <| ?_
  obtain rfl := Option.some.inj h
  exact rq 4 rfl ⟨rfl, rfl, rfl⟩

theorem tarryref05_put.ok (l0_0 : List ByteArray) (l0_1 : List S71) (a1 : Int) (a2 : ByteArray) (v0_0 : Value) (v0_1 : Value) (r1 : List ByteArray) (r2 : List S71) (h : tarryref05_put.f l0_0 l0_1 a1 a2 = some (r1, r2)) :
    VCalls Tryz.prog 41 [.agg #[v0_0, v0_1], iv a1, .string a2] [.row v0_0 1 (l0_0.map enc_str), .row v0_1 2 (l0_1.map enc71)] (fun v G own => ∃ w0 w1 : Value, v = .agg #[w0, w1] ∧ G = [.row w0 1 (r1.map enc_str)] ∧ own = [(w1, 72, 2, r2.map enc71)]) := by
  refine VCalls.intro Tryz.func41 rfl (len rfl) fun E hC hW hD hU => ?_
  unfold tarryref05_put.f at h
  refine sr <| sG (o_box rfl (.agg (.f 0 rfl (.f 1 rfl .nil)))) fun g28121 => sG (o_alloc Z25 ZL25) fun g28122 => nx <|
   sG (o_buildSlice (vals := []) (cells := #[]) (es := List.map enc71 ([] : List S71)) Tryz.underlying23 TI72 Z72 rfl (by decide) (by decide) (by kernel_rfl) (by kernel_rfl) rfl (flat_map enc71_ok _)) fun v28124 => vs rfl <| nx <| vm rfl <| va (op_fieldAddr FI25_1 rfl (add_at _ _ _)) <|
   va (op_load 1 1 rfl rfl TI23 rfl (by decide)) <| ?_
  replace h := iN h
  obtain ⟨c28125, h⟩ := h
  refine sG (o_append 0 appm Tryz.underlying23 EI72 rfl rfl rfl (.inl ⟨1, rfl⟩) (bndm c28125)) fun v28126 => vs rfl <| nx <| vm rfl <| vm rfl <| vm rfl <|
   va (op_build (vals := [(0, iv a1), (1, .string a2)]) (vcs := [(0, [iv a1]), (1, [.string a2])]) (cells := [iv a1, .string a2]) SI72 rfl (.cons ⟨rfl, (.c rfl)⟩ (.cons ⟨rfl, (.c rfl)⟩ .nil)) (by kernel_rfl)) <|
   sG (o_buildSlice (vals := [(0, .agg #[iv a1, .string a2])]) (cells := #[iv a1, .string a2]) (es := List.map enc71 ([(⟨a1, a2⟩ : S71)] : List S71)) Tryz.underlying23 TI72 Z72 rfl (by decide) (by decide) (by kernel_rfl) (by kernel_rfl) rfl (flat_map enc71_ok _)) fun v28129 => ?_
  replace h := iN h
  obtain ⟨c28130, h⟩ := h
  refine sG (o_append 1 appm Tryz.underlying23 EI72 rfl rfl rfl (.inr ⟨0, _, rfl⟩) (bndm c28130)) fun v28131 => vs rfl <| nx <| vm rfl <| va (op_fieldAddr FI25_1 rfl (add_at _ _ _)) <| s1 (o_store 1 1 rfl rfl rfl TI23 (.r 1 rfl) rfl (len rfl)) <| nx <|
   va (op_load 1 2 rfl rfl TI25 rfl (fun h => absurd h (by decide))) <| s1 (o_store 0 2 rfl rfl rfl TI25 (.agg (.f 0 rfl (.r 1 rfl .nil))) rfl (len rfl)) <| dt <| VC.ret <| ?_
  simp only [Option.some.injEq, Prod.mk.injEq] at h
  obtain ⟨rfl, rfl⟩ := h
  exact rf [.cell 6 25] [1] (.cell 0 rfl rfl TI25 (fun h => absurd h (by decide)) .nil) ⟨v0_0, v28131, rfl, rfl, rfl⟩

theorem tarryref05_zeros.ok (a0 : Int)  (r1 : ByteArray) (h : tarryref05_zeros.f a0 = some r1) :
    VCalls Tryz.prog 42 [iv a0] [] (fun v G own => v = .string r1 ∧ G = [] ∧ own = []) := by
  refine VCalls.intro Tryz.func42 rfl (len rfl) fun E hC hW hD hU => ?_
  unfold tarryref05_zeros.f at h
  refine sr <| vs rfl <| nx <| vm rfl <| ?_
  replace h := iN h
  obtain ⟨c29890, h⟩ := h
  replace h := iN h
  obtain ⟨c29891, h⟩ := h
  refine o_makeSliceJ (k := .u8) Tryz.underlying68 EI5 (by kernel_rfl) rfl rfl c29890 c29891 (ltn rfl) rfl fun g29892 => ?_
  replace h := iN h
  obtain ⟨c29893, h⟩ := h
  refine va (op_bytesStrB 0 Tryz.underlying68 Tryz.underlying9 Tryz.underlying5 rfl rfl c29893) <| vs rfl <| dt <| VC.ret <| ?_
  obtain rfl := Option.some.inj h
  exact rq 2 rfl ⟨rfl, rfl, rfl⟩

end Go.Proofs.YtipeglbeongfmaaGreat.PJournalSeals
