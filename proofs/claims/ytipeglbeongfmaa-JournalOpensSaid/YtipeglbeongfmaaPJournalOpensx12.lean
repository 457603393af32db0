/- Written by a program of this repo: what the program's functions do, each as a Lean function, shown of the loaded code; or a statement's row over that; no condition of its own. -/
import Derived.Test.YtipeglbeongfmaaPJournalOpensx11
namespace Go.Proofs.Ytipeglbeongfmaa.PJournalOpens
open Go Go.RowKit Go.Proofs.YtipeglbeongfmaaV
set_option linter.unusedVariables false
set_option linter.unusedSimpArgs false
set_option maxHeartbeats 4000000
set_option maxRecDepth 100000

theorem tarryref03_Like.ok (k : Nat) (l0_0 : List ByteArray) (l0_1 : List S55) (l1_0 : List ByteArray) (l1_1 : List S55) (v0_0 : Value) (v0_1 : Value) (v1_0 : Value) (v1_1 : Value) (r1 : Bool) (h : tarryref03_Like.f k l0_0 l0_1 l1_0 l1_1 = some r1) :
    VCalls Try.prog 33 [.agg #[v0_0, v0_1], .agg #[v1_0, v1_1]] [.row v0_0 1 (l0_0.map enc_str), .row v0_1 2 (l0_1.map enc55), .row v1_0 1 (l1_0.map enc_str), .row v1_1 2 (l1_1.map enc55)] (fun v G own => v = .bool r1 ∧ G = [] ∧ own = []) := by
  refine VCalls.intro Try.func33 rfl (len rfl) fun E hC hW hD hU => ?_
  unfold tarryref03_Like.f at h
  refine sr <| sG (o_box rfl (.agg (.f 0 rfl (.f 1 rfl .nil)))) fun g24931 => sG (o_box rfl (.agg (.f 2 rfl (.f 3 rfl .nil)))) fun g24932 => vs rfl <| ds <| sr <| va (op_fieldAddr FI25_0 rfl (add_at _ _ _)) <| va (op_load 1 1 rfl rfl TI22 rfl (by decide)) <|
   va (op_len (m := l0_0.length) 0 lenm Try.underlying22 rfl rfl) <| va (op_fieldAddr FI25_0 rfl (add_at _ _ _)) <| va (op_load 0 1 rfl rfl TI22 rfl (by decide)) <| va (op_len (m := l1_0.length) 2 lenm Try.underlying22 rfl rfl) <|
   VL.letter (((l0_0.length : Int) != (l1_0.length : Int))) fun b24943 hb24943 => va (op_cmp rfl rfl (congrArg some hb24943)) <| vm rfl <| ?_
  replace h := iC h
  rcases h with ⟨c24944, h⟩ | ⟨c24944, h⟩
  · obtain rfl : b24943 = false := hb24943.symm.trans (bne_eq_false_iff_eq.2 c24944)
    refine va (op_fieldAddr FI25_1 rfl (add_at _ _ _)) <| va (op_load 1 1 rfl rfl TI23 rfl (by decide)) <| va (op_len (m := l0_1.length) 1 lenm Try.underlying23 rfl rfl) <| va (op_fieldAddr FI25_1 rfl (add_at _ _ _)) <| va (op_load 0 1 rfl rfl TI23 rfl (by decide)) <|
     va (op_len (m := l1_1.length) 3 lenm Try.underlying23 rfl rfl) <| VL.letter (((l0_1.length : Int) != (l1_1.length : Int))) fun b24945 hb24945 => va (op_cmp rfl rfl (congrArg some hb24945)) <| va (op_pick rfl rfl) <| dt <| ?_
    replace h := iC h
    rcases h with ⟨c24946, h⟩ | ⟨c24946, h⟩
    · obtain rfl : b24945 = false := hb24945.symm.trans (bne_eq_false_iff_eq.2 c24946)
      refine cf <| sk <| sq <| sr <| va (op_fieldAddr FI25_0 rfl (add_at _ _ _)) <| va (op_load 1 1 rfl rfl TI22 rfl (by decide)) <| va (op_len (m := l0_0.length) 0 lenm Try.underlying22 rfl rfl) <| vm rfl <| dt <| VC.block <|
       VC.loop1 (fun (i25000 : Int) => ⟨59, [(2, pt g24931 0), (3, pt g24932 0), (4, .bool false), (25, iv (l0_0.length : Int)), (26, iv i25000)], [.row v1_0 1 (l1_0.map enc_str), .row v1_1 2 (l1_1.map enc55), .row v0_0 1 (l0_0.map enc_str), .row v0_1 2 (l0_1.map enc55)], [(g24932, 25, [v1_0, v1_1]), (g24931, 25, [v0_0, v0_1])], []⟩) (fun (ml1 : Nat) (i25000 : Int) => tarryref03_Like.l1 k l0_0 l0_1 l1_0 l1_1 ml1 i25000 = some r1) k 0 [0, 1] [] h ⟨rfl, ⟨rfl, rfl, rfl, rfl, rfl, trivial⟩, ⟨⟨2, rfl⟩, ⟨3, rfl⟩, ⟨0, rfl⟩, ⟨1, rfl⟩, trivial⟩, rfl, by decide, rfl, by decide⟩ (by intros; simp [tarryref03_Like.l1]) <|
       ?_
      clear h
      intro ml1 ihl1 i25000 h
      simp only [tarryref03_Like.l1] at h
      refine sr <| VL.letter (decide (i25000 < (l0_0.length : Int))) fun b25014 hb25014 => va (op_cmp rfl rfl (congrArg some hb25014)) <| ds <| ?_
      replace h := iC h
      rcases h with ⟨c25096, h⟩ | ⟨c25096, h⟩
      · cases lT c25096 hb25014
        refine ct <| sk <| sq <| VC.block <| sr <| vm rfl <| vs rfl <| dt <| ?_
        replace h := iN h
        obtain ⟨c25102, h⟩ := h
        replace h := bd h
        obtain ⟨x25103, hx25103, h⟩ := h
        replace h := bd h
        obtain ⟨x25104, hx25104, h⟩ := h
        refine VC.letter ((x25103 != x25104)) fun b25105 hb25105 => VC.open (m := l0_0.length) 2 lenm rfl (pos_get hx25103) <| ?_
        rintro ad24951 n24952 rfl
        refine VC.open (m := l1_0.length) 0 lenm rfl (pos_get hx25104) <| ?_
        rintro ad24954 n24955 rfl
        refine VC.join0 (⟨59, [(2, pt g24931 0), (3, pt g24932 0), (4, .bool false), (5, iv i25000), (25, iv (l0_0.length : Int)), (26, iv i25000), (27, .bool true), (28, iv i25000), (29, pt g24931 0), (30, (.slice (some ad24951) l0_0.length n24952)), (31, iv i25000), (33, .string x25103), (34, pt g24932 0), (35, (.slice (some ad24954) l1_0.length n24955)), (36, iv i25000), (38, .string x25104), (39, .bool b25105)], [.row (.slice (some ad24954) l1_0.length n24955) 1 (l1_0.map enc_str), .row v1_1 2 (l1_1.map enc55), .row (.slice (some ad24951) l0_0.length n24952) 1 (l0_0.map enc_str), .row v0_1 2 (l0_1.map enc55)], [(g24932, 25, [(.slice (some ad24954) l1_0.length n24955), v1_1]), (g24931, 25, [(.slice (some ad24951) l0_0.length n24952), v0_1])], []⟩) (True) ?_ ?_
        · exact dw ⟨0, [], [.row (.slice (some ad24954) l1_0.length n24955) 1 (l1_0.map enc_str), .row (.slice (some ad24951) l0_0.length n24952) 1 (l0_0.map enc_str)], [(g24932, 25, [(.slice (some ad24954) l1_0.length n24955), v1_1]), (g24931, 25, [(.slice (some ad24951) l0_0.length n24952), v0_1])], []⟩ 11 <|
           av 0 1 rfl (op_fieldAddr FI25_0 rfl (add_at _ _ _)) <| av 1 3 rfl (op_load 1 1 rfl rfl TI22 rfl (by decide)) <| av 2 7 rfl (mv rfl) <| av 3 15 rfl (op_indexAddr Try.underlying22 TI9 rfl rfl c25102 (lt_get c25102 hx25103) rfl) <|
           av 4 31 rfl (op_load_row (sz := 1) (o := 0) 1 i25000.toNat 1 rfl rfl (get_map hx25103) TI9 rfl (by decide)) <| av 5 63 rfl (op_fieldAddr FI25_0 rfl (add_at _ _ _)) <| av 6 127 rfl (op_load 0 1 rfl rfl TI22 rfl (by decide)) <| av 7 255 rfl (mv rfl) <|
           av 8 511 rfl (op_indexAddr Try.underlying22 TI9 rfl rfl c25102 (lt_get c25102 hx25104) rfl) <| av 9 1023 rfl (op_load_row (sz := 1) (o := 0) 0 i25000.toNat 1 rfl rfl (get_map hx25104) TI9 rfl (by decide)) <| av 10 2047 rfl (op_cmps rfl rfl (congrArg some hb25105)) <| ad <| VN.meet0 [0, 1] [] trivial
        intro _
        replace h := iC h
        rcases h with ⟨c25106, h⟩ | ⟨c25106, h⟩
        · obtain rfl : b25105 = false := hb25105.symm.trans (bne_of_t c25106)
          refine cf <| VC.skip <| VN.block <| tr <| va (op_ari64 rfl rfl rfl) <| vm rfl <| dn <| VN.again [0, 1] [] (ihl1 (wrap64 (i25000 + 1)) h)
        obtain rfl : b25105 = true := hb25105.symm.trans (bne_of_f c25106)
        refine ct <| sr <| vs rfl <| dt <| VC.ret <| VR.block <| VR.then <| VR.then <| VR.block <| VR.then <| ?_
        obtain rfl := Option.some.inj h
        exact rq 4 rfl ⟨rfl, rfl, rfl⟩
      cases lF c25096 hb25014
      refine cf <| VC.exit <| VX.then <| VX.then <| VX.hit <| ts <| sr <| va (op_fieldAddr FI25_1 rfl (add_at _ _ _)) <| va (op_load 1 1 rfl rfl TI23 rfl (by decide)) <| va (op_len (m := l0_1.length) 3 lenm Try.underlying23 rfl rfl) <| vm rfl <| dt <| VC.block <|
       VC.loop1 (fun (i25156 : Int) => ⟨59, [(2, pt g24931 0), (3, pt g24932 0), (4, .bool false), (43, iv (l0_1.length : Int)), (44, iv i25156)], [.row v1_0 1 (l1_0.map enc_str), .row v1_1 2 (l1_1.map enc55), .row v0_0 1 (l0_0.map enc_str), .row v0_1 2 (l0_1.map enc55)], [(g24932, 25, [v1_0, v1_1]), (g24931, 25, [v0_0, v0_1])], []⟩) (fun (ml5 : Nat) (i25156 : Int) => tarryref03_Like.l5 k l0_1 l1_1 ml5 i25156 = some r1) k 0 [0, 1] [] h ⟨rfl, ⟨rfl, rfl, rfl, rfl, rfl, trivial⟩, ⟨⟨0, rfl⟩, ⟨1, rfl⟩, ⟨2, rfl⟩, ⟨3, rfl⟩, trivial⟩, rfl, by decide, rfl, by decide⟩ (by intros; simp [tarryref03_Like.l5]) <|
       ?_
      clear h
      intro ml5 ihl5 i25156 h
      simp only [tarryref03_Like.l5] at h
      refine sr <| VL.letter (decide (i25156 < (l0_1.length : Int))) fun b25170 hb25170 => va (op_cmp rfl rfl (congrArg some hb25170)) <| ds <| ?_
      replace h := iC h
      rcases h with ⟨c25172, h⟩ | ⟨c25172, h⟩
      · cases lT c25172 hb25170
        refine ct <| sk <| sq <| VC.block <| sr <| vm rfl <| vs rfl <| dt <| ?_
        replace h := iN h
        obtain ⟨c25178, h⟩ := h
        replace h := bd h
        obtain ⟨x25179, hx25179, h⟩ := h
        replace h := bd h
        obtain ⟨x25180, hx25180, h⟩ := h
        refine VC.letter ((!(((x25179.f0 == x25180.f0) && (x25179.f1 == x25180.f1))))) fun b25181 hb25181 => VC.open (m := l0_1.length) 3 lenm rfl (pos_get hx25179) <| ?_
        rintro ad25020 n25021 rfl
        refine VC.open (m := l1_1.length) 1 lenm rfl (pos_get hx25180) <| ?_
        rintro ad25023 n25024 rfl
        refine VC.join0 (⟨59, [(2, pt g24931 0), (3, pt g24932 0), (4, .bool false), (6, iv i25156), (43, iv (l0_1.length : Int)), (44, iv i25156), (45, .bool true), (46, iv i25156), (47, pt g24931 1), (48, (.slice (some ad25020) l0_1.length n25021)), (49, iv i25156), (51, .agg #[iv x25179.f0, .string x25179.f1]), (52, pt g24932 1), (53, (.slice (some ad25023) l1_1.length n25024)), (54, iv i25156), (56, .agg #[iv x25180.f0, .string x25180.f1]), (57, .bool b25181)], [.row v1_0 1 (l1_0.map enc_str), .row (.slice (some ad25023) l1_1.length n25024) 2 (l1_1.map enc55), .row v0_0 1 (l0_0.map enc_str), .row (.slice (some ad25020) l0_1.length n25021) 2 (l0_1.map enc55)], [(g24932, 25, [v1_0, (.slice (some ad25023) l1_1.length n25024)]), (g24931, 25, [v0_0, (.slice (some ad25020) l0_1.length n25021)])], []⟩) (True) ?_ ?_
        · exact dw ⟨0, [], [.row (.slice (some ad25023) l1_1.length n25024) 2 (l1_1.map enc55), .row (.slice (some ad25020) l0_1.length n25021) 2 (l0_1.map enc55)], [(g24932, 25, [v1_0, (.slice (some ad25023) l1_1.length n25024)]), (g24931, 25, [v0_0, (.slice (some ad25020) l0_1.length n25021)])], []⟩ 11 <|
           av 0 1 rfl (op_fieldAddr FI25_1 rfl (add_at _ _ _)) <| av 1 3 rfl (op_load 1 1 rfl rfl TI23 rfl (by decide)) <| av 2 7 rfl (mv rfl) <| av 3 15 rfl (op_indexAddr Try.underlying23 TI56 rfl rfl c25178 (lt_get c25178 hx25179) rfl) <|
           av 4 31 rfl (op_load_row (sz := 2) (o := 0) 1 i25156.toNat 2 rfl rfl (get_map hx25179) TI56 rfl (fun h => absurd h (by decide))) <| av 5 63 rfl (op_fieldAddr FI25_1 rfl (add_at _ _ _)) <| av 6 127 rfl (op_load 0 1 rfl rfl TI23 rfl (by decide)) <| av 7 255 rfl (mv rfl) <|
           av 8 511 rfl (op_indexAddr Try.underlying23 TI56 rfl rfl c25178 (lt_get c25178 hx25180) rfl) <| av 9 1023 rfl (op_load_row (sz := 2) (o := 0) 0 i25156.toNat 2 rfl rfl (get_map hx25180) TI56 rfl (fun h => absurd h (by decide))) <|
           av 10 2047 rfl (op_neS rfl rfl EG56 (EQ56 x25179.f0 x25179.f1 x25180.f0 x25180.f1) hb25181) <| ad <| VN.meet0 [0, 1] [] trivial
        intro _
        replace h := iC h
        rcases h with ⟨c25182, h⟩ | ⟨c25182, h⟩
        · obtain rfl : b25181 = false := hb25181.symm.trans (not_t c25182)
          refine cf <| VC.skip <| VN.block <| tr <| va (op_ari64 rfl rfl rfl) <| vm rfl <| dn <| VN.again [0, 1] [] (ihl5 (wrap64 (i25156 + 1)) h)
        obtain rfl : b25181 = true := hb25181.symm.trans (not_f c25182)
        refine ct <| sr <| vs rfl <| dt <| VC.ret <| VR.block <| VR.then <| VR.then <| VR.block <| VR.then <| ?_
        obtain rfl := Option.some.inj h
        exact rq 4 rfl ⟨rfl, rfl, rfl⟩
      cases lF c25172 hb25170
      refine cf <| VC.exit <| VX.then <| VX.then <| VX.hit <| tx <| vs rfl <| dt <| VC.ret <| ?_
      obtain rfl := Option.some.inj h
      exact rq 4 rfl ⟨rfl, rfl, rfl⟩
    obtain rfl : b24945 = true := hb24945.symm.trans (bne_iff_ne.2 c24946)
    refine ct <| sr <| vs rfl <| dt <| VC.ret <| VR.then <| ?_
    obtain rfl := Option.some.inj h
    exact rq 4 rfl ⟨rfl, rfl, rfl⟩
  obtain rfl : b24943 = true := hb24943.symm.trans (bne_iff_ne.2 c24944)
  refine un rfl <| un rfl <| un rfl <| un rfl <| un rfl <| un rfl <| un rfl <| va (op_pick rfl rfl) <| dt <| ct <| sr <| vs rfl <| dt <| VC.ret <| VR.then <| ?_
  obtain rfl := Option.some.inj h
  exact rq 4 rfl ⟨rfl, rfl, rfl⟩

theorem tarryref05_Like.ok (k : Nat) (l0_0 : List ByteArray) (l0_1 : List S55) (a0_2 : Int) (a0_3 : Int) (a0_4 : Int) (l0_5 : List ByteArray) (l0_6 : List ByteArray) (l1_0 : List ByteArray) (l1_1 : List S55) (a1_2 : Int) (a1_3 : Int) (a1_4 : Int) (l1_5 : List ByteArray) (l1_6 : List ByteArray) (v0_0 : Value) (v0_1 : Value) (v0_5 : Value) (v0_6 : Value) (v1_0 : Value) (v1_1 : Value) (v1_5 : Value) (v1_6 : Value) (r1 : Bool) (h : tarryref05_Like.f k l0_0 l0_1 a0_2 a0_3 a0_4 l0_5 l0_6 l1_0 l1_1 a1_2 a1_3 a1_4 l1_5 l1_6 = some r1) :
    VCalls Try.prog 11 [.agg #[v0_0, v0_1, iv a0_2, iv a0_3, iv a0_4, v0_5, v0_6], .agg #[v1_0, v1_1, iv a1_2, iv a1_3, iv a1_4, v1_5, v1_6]] [.row v0_0 1 (l0_0.map enc_str), .row v0_1 2 (l0_1.map enc55), .row v0_5 1 (l0_5.map enc_str), .row v0_6 1 (l0_6.map enc_str), .row v1_0 1 (l1_0.map enc_str), .row v1_1 2 (l1_1.map enc55), .row v1_5 1 (l1_5.map enc_str), .row v1_6 1 (l1_6.map enc_str)] (fun v G own => v = .bool r1 ∧ G = [] ∧ own = []) := by
  refine VCalls.intro Try.func11 rfl (len rfl) fun E hC hW hD hU => ?_
  unfold tarryref05_Like.f at h
  refine sr <| sG (o_box rfl (.agg (.f 0 rfl (.f 1 rfl (.c rfl (.c rfl (.c rfl (.f 2 rfl (.f 3 rfl .nil))))))))) fun g24827 => sG (o_box rfl (.agg (.f 4 rfl (.f 5 rfl (.c rfl (.c rfl (.c rfl (.f 6 rfl (.f 7 rfl .nil))))))))) fun g24828 => vs rfl <| nx <| va (op_fieldAddr FI27_1 rfl (add_at _ _ _)) <|
   va (op_load 1 1 rfl rfl TI3 rfl (by decide)) <| va (op_fieldAddr FI27_1 rfl (add_at _ _ _)) <| va (op_load 0 1 rfl rfl TI3 rfl (by decide)) <| VL.letter ((a0_2 == a1_2)) fun b25185 hb25185 => va (op_cmp rfl rfl (congrArg some hb25185)) <| vm rfl <| ?_
  replace h := iC h
  rcases h with ⟨c25186, h⟩ | ⟨c25186, h⟩
  · obtain rfl : b25185 = true := hb25185.symm.trans (beq_iff_eq.2 c25186)
    refine va (op_fieldAddr FI27_2 rfl (add_at _ _ _)) <| va (op_load 1 1 rfl rfl TI3 rfl (by decide)) <| va (op_fieldAddr FI27_2 rfl (add_at _ _ _)) <| va (op_load 0 1 rfl rfl TI3 rfl (by decide)) <| VL.letter ((a0_3 == a1_3)) fun b25187 hb25187 => va (op_cmp rfl rfl (congrArg some hb25187)) <|
     va (op_pick rfl rfl) <| vm rfl <| ?_
    replace h := iC h
    rcases h with ⟨c25188, h⟩ | ⟨c25188, h⟩
    · obtain rfl : b25187 = true := hb25187.symm.trans (beq_iff_eq.2 c25188)
      refine va (op_fieldAddr FI27_3 rfl (add_at _ _ _)) <| va (op_load 1 1 rfl rfl TI3 rfl (by decide)) <| va (op_fieldAddr FI27_3 rfl (add_at _ _ _)) <| va (op_load 0 1 rfl rfl TI3 rfl (by decide)) <| VL.letter ((a0_4 == a1_4)) fun b25189 hb25189 => va (op_cmp rfl rfl (congrArg some hb25189)) <|
       va (op_pick rfl rfl) <| vm rfl <| ?_
      replace h := iC h
      rcases h with ⟨c25190, h⟩ | ⟨c25190, h⟩
      · obtain rfl : b25189 = true := hb25189.symm.trans (beq_iff_eq.2 c25190)
        refine va (op_fieldAddr FI27_4 rfl (add_at _ _ _)) <| va (op_load 1 1 rfl rfl TI22 rfl (by decide)) <| va (op_fieldAddr FI27_4 rfl (add_at _ _ _)) <| va (op_load 0 1 rfl rfl TI22 rfl (by decide)) <| ?_
        replace h := bd h
        obtain ⟨t25191, hA25192, h⟩ := h
        refine sC (o_call0 FO17 (tarryref01_Same.ok k l0_5 l1_5 v0_5 v1_5 t25191 hA25192) rfl rfl (ltn rfl) (All_of (.cons (mG 2 rfl) (.cons (mG 6 rfl) .nil)))) <| ?_
        rintro _ _ _ ⟨rfl, rfl, rfl⟩
        refine va (op_pick rfl rfl) <| vm rfl <| ?_
        replace h := iC h
        rcases h with ⟨c25193, h⟩ | ⟨c25193, h⟩
        · obtain rfl := c25193
          refine va (op_fieldAddr FI27_5 rfl (add_at _ _ _)) <| va (op_load 1 1 rfl rfl TI22 rfl (by decide)) <| va (op_fieldAddr FI27_5 rfl (add_at _ _ _)) <| va (op_load 0 1 rfl rfl TI22 rfl (by decide)) <| ?_
          replace h := bd h
          obtain ⟨t25194, hA25195, h⟩ := h
          refine sC (o_call0 FO17 (tarryref01_Same.ok k l0_6 l1_6 v0_6 v1_6 t25194 hA25195) rfl rfl (ltn rfl) (All_of (.cons (mG 3 rfl) (.cons (mG 7 rfl) .nil)))) <| ?_
          rintro _ _ _ ⟨rfl, rfl, rfl⟩
          refine va (op_pick rfl rfl) <| vm rfl <| ?_
          replace h := iC h
          rcases h with ⟨c25196, h⟩ | ⟨c25196, h⟩
          · obtain rfl := c25196
            refine va (op_fieldAddr FI27_0 rfl (add_at _ _ _)) <| va (op_load 1 2 rfl rfl TI25 rfl (fun h => absurd h (by decide))) <| va (op_fieldAddr FI27_0 rfl (add_at _ _ _)) <| va (op_load 0 2 rfl rfl TI25 rfl (fun h => absurd h (by decide))) <| ?_
            replace h := bd h
            obtain ⟨t25197, hA25198, h⟩ := h
            refine sC (o_call0 FO33 (tarryref03_Like.ok k l0_0 l0_1 l1_0 l1_1 v0_0 v0_1 v1_0 v1_1 t25197 hA25198) rfl rfl (ltn rfl) (All_of (.cons (mG 0 rfl) (.cons (mG 1 rfl) (.cons (mG 4 rfl) (.cons (mG 5 rfl) .nil)))))) <| ?_
            rintro _ _ _ ⟨rfl, rfl, rfl⟩
            refine va (op_pick rfl rfl) <| vs rfl <| dt <| VC.ret <| ?_
            obtain rfl := Option.some.inj h
            exact rq 4 rfl ⟨rfl, rfl, rfl⟩
          obtain rfl := Bool.eq_false_iff.2 c25196
          refine un rfl <| un rfl <| un rfl <| un rfl <| un rfl <| va (op_pick rfl rfl) <| vs rfl <| dt <| VC.ret <| ?_
          obtain rfl := Option.some.inj h
          exact rq 4 rfl ⟨rfl, rfl, rfl⟩
        obtain rfl := Bool.eq_false_iff.2 c25193
        refine un rfl <| un rfl <| un rfl <| un rfl <| un rfl <| va (op_pick rfl rfl) <| vm rfl <| un rfl <| un rfl <| un rfl <| un rfl <| un rfl <| va (op_pick rfl rfl) <| vs rfl <| dt <| VC.ret <| ?_
        obtain rfl := Option.some.inj h
        exact rq 4 rfl ⟨rfl, rfl, rfl⟩
      obtain rfl : b25189 = false := hb25189.symm.trans (beq_eq_false_iff_ne.2 c25190)
      refine un rfl <| un rfl <| un rfl <| un rfl <| un rfl <| va (op_pick rfl rfl) <| vm rfl <| un rfl <| un rfl <| un rfl <| un rfl <| un rfl <| va (op_pick rfl rfl) <| vm rfl <| un rfl <| un rfl <| un rfl <| un rfl <| un rfl <| va (op_pick rfl rfl) <| vs rfl <| dt <| VC.ret <| ?_
      obtain rfl := Option.some.inj h
      exact rq 4 rfl ⟨rfl, rfl, rfl⟩
    obtain rfl : b25187 = false := hb25187.symm.trans (beq_eq_false_iff_ne.2 c25188)
    refine un rfl <| un rfl <| un rfl <| un rfl <| un rfl <| va (op_pick rfl rfl) <| vm rfl <| un rfl <| un rfl <| un rfl <| un rfl <| un rfl <| va (op_pick rfl rfl) <| vm rfl <| un rfl <| un rfl <| un rfl <| un rfl <| un rfl <| va (op_pick rfl rfl) <| vm rfl <| un rfl <| un rfl <| un rfl <| un rfl <|
     un rfl <| va (op_pick rfl rfl) <| vs rfl <| dt <| VC.ret <| ?_
    obtain rfl := Option.some.inj h
    exact rq 4 rfl ⟨rfl, rfl, rfl⟩
  obtain rfl : b25185 = false := hb25185.symm.trans (beq_eq_false_iff_ne.2 c25186)
  refine un rfl <| un rfl <| un rfl <| un rfl <| un rfl <| va (op_pick rfl rfl) <| vm rfl <| un rfl <| un rfl <| un rfl <| un rfl <| un rfl <| va (op_pick rfl rfl) <| vm rfl <| un rfl <| un rfl <| un rfl <| un rfl <| un rfl <| va (op_pick rfl rfl) <| vm rfl <| un rfl <| un rfl <| un rfl <| un rfl <|
   un rfl <| va (op_pick rfl rfl) <| vm rfl <| un rfl <| un rfl <| un rfl <| un rfl <| un rfl <| va (op_pick rfl rfl) <| vs rfl <| dt <| VC.ret <| ?_
  obtain rfl := Option.some.inj h
  exact rq 4 rfl ⟨rfl, rfl, rfl⟩

theorem slices_Equal_string_string.ok (k : Nat) (l0 : List ByteArray) (l1 : List ByteArray) (v0 : Value) (v1 : Value) (r1 : Bool) (h : slices_Equal_string_string.f k l0 l1 = some r1) :
    VCalls Try.prog 34 [v0, v1] [.row v0 1 (l0.map enc_str), .row v1 1 (l1.map enc_str)] (fun v G own => v = .bool r1 ∧ G = [] ∧ own = []) := by
  refine VCalls.intro Try.func34 rfl (len rfl) fun E hC hW hD hU => ?_
  unfold slices_Equal_string_string.f at h
  refine sr <| vs rfl <| ds <| sr <| vm rfl <| va (op_len (m := l0.length) 0 lenm Try.underlying22 rfl rfl) <| vm rfl <| va (op_len (m := l1.length) 1 lenm Try.underlying22 rfl rfl) <|
   VL.letter (((l0.length : Int) != (l1.length : Int))) fun b25235 hb25235 => va (op_cmp rfl rfl (congrArg some hb25235)) <| dt <| ?_
  replace h := iC h
  rcases h with ⟨c25236, h⟩ | ⟨c25236, h⟩
  · obtain rfl : b25235 = false := hb25235.symm.trans (bne_eq_false_iff_eq.2 c25236)
    refine cf <| sk <| sq <| sr <| vm rfl <| va (op_len (m := l0.length) 0 lenm Try.underlying22 rfl rfl) <| vm rfl <| dt <| VC.block <|
     VC.loop1 (fun (i25290 : Int) => ⟨26, [(0, v0), (1, v1), (4, .bool false), (12, iv (l0.length : Int)), (13, iv i25290)], [.row v0 1 (l0.map enc_str), .row v1 1 (l1.map enc_str)], [], []⟩) (fun (ml1 : Nat) (i25290 : Int) => slices_Equal_string_string.l1 k l0 l1 ml1 i25290 = some r1) k 0 [] [] h ⟨rfl, ⟨rfl, rfl, rfl, rfl, rfl, trivial⟩, ⟨⟨0, rfl⟩, ⟨1, rfl⟩, trivial⟩, rfl, by decide, rfl, by decide⟩ (by intros; simp [slices_Equal_string_string.l1]) <|
     ?_
    clear h
    intro ml1 ihl1 i25290 h
    simp only [slices_Equal_string_string.l1] at h
    refine sr <| VL.letter (decide (i25290 < (l0.length : Int))) fun b25304 hb25304 => va (op_cmp rfl rfl (congrArg some hb25304)) <| ds <| ?_
    replace h := iC h
    rcases h with ⟨c25306, h⟩ | ⟨c25306, h⟩
    · cases lT c25306 hb25304
      refine ct <| sk <| sq <| VC.block <| sr <| vm rfl <| vs rfl <| dt <| ?_
      replace h := iN h
      obtain ⟨c25312, h⟩ := h
      replace h := bd h
      obtain ⟨x25313, hx25313, h⟩ := h
      replace h := bd h
      obtain ⟨x25314, hx25314, h⟩ := h
      refine VC.letter ((x25313 != x25314)) fun b25315 hb25315 => VC.open (m := l0.length) 0 lenm rfl (pos_get hx25313) <| ?_
      rintro ad25241 n25242 rfl
      refine VC.open (m := l1.length) 1 lenm rfl (pos_get hx25314) <| ?_
      rintro ad25244 n25245 rfl
      refine VC.join0 (⟨26, [(0, (.slice (some ad25241) l0.length n25242)), (1, (.slice (some ad25244) l1.length n25245)), (4, .bool false), (5, iv i25290), (12, iv (l0.length : Int)), (13, iv i25290), (14, .bool true), (15, iv i25290), (16, (.slice (some ad25241) l0.length n25242)), (17, iv i25290), (19, .string x25313), (20, (.slice (some ad25244) l1.length n25245)), (21, iv i25290), (23, .string x25314), (24, .bool b25315)], [.row (.slice (some ad25241) l0.length n25242) 1 (l0.map enc_str), .row (.slice (some ad25244) l1.length n25245) 1 (l1.map enc_str)], [], []⟩) (True) ?_ ?_
      · exact dw ⟨0, [], [.row (.slice (some ad25241) l0.length n25242) 1 (l0.map enc_str), .row (.slice (some ad25244) l1.length n25245) 1 (l1.map enc_str)], [], []⟩ 9 <| av 0 1 rfl (mv rfl) <| av 1 3 rfl (mv rfl) <|
         av 2 7 rfl (op_indexAddr Try.underlying22 TI9 rfl rfl c25312 (lt_get c25312 hx25313) rfl) <| av 3 15 rfl (op_load_row (sz := 1) (o := 0) 0 i25290.toNat 1 rfl rfl (get_map hx25313) TI9 rfl (by decide)) <| av 4 31 rfl (mv rfl) <| av 5 63 rfl (mv rfl) <|
         av 6 127 rfl (op_indexAddr Try.underlying22 TI9 rfl rfl c25312 (lt_get c25312 hx25314) rfl) <| av 7 255 rfl (op_load_row (sz := 1) (o := 0) 1 i25290.toNat 1 rfl rfl (get_map hx25314) TI9 rfl (by decide)) <| av 8 511 rfl (op_cmps rfl rfl (congrArg some hb25315)) <| ad <| VN.meet0 [] [] trivial
      intro _
      replace h := iC h
      rcases h with ⟨c25316, h⟩ | ⟨c25316, h⟩
      · obtain rfl : b25315 = false := hb25315.symm.trans (bne_of_t c25316)
        refine cf <| VC.skip <| VN.block <| tr <| va (op_ari64 rfl rfl rfl) <| vm rfl <| dn <| VN.again [] [] (ihl1 (wrap64 (i25290 + 1)) h)
      obtain rfl : b25315 = true := hb25315.symm.trans (bne_of_f c25316)
      refine ct <| sr <| vs rfl <| dt <| VC.ret <| VR.block <| VR.then <| VR.then <| VR.block <| VR.then <| ?_
      obtain rfl := Option.some.inj h
      exact rq 4 rfl ⟨rfl, rfl, rfl⟩
    cases lF c25306 hb25304
    refine cf <| VC.exit <| VX.then <| VX.then <| VX.hit <| tx <| vs rfl <| dt <| VC.ret <| ?_
    obtain rfl := Option.some.inj h
    exact rq 4 rfl ⟨rfl, rfl, rfl⟩
  obtain rfl : b25235 = true := hb25235.symm.trans (bne_iff_ne.2 c25236)
  refine ct <| sr <| vs rfl <| dt <| VC.ret <| VR.then <| ?_
  obtain rfl := Option.some.inj h
  exact rq 4 rfl ⟨rfl, rfl, rfl⟩

theorem journal_waits_1.ok (a0 : ByteArray)  (r1 : Bool) (h : journal_waits_1.f a0 = some r1) :
    VCalls Try.prog 67 [.string a0] [] (fun v G own => v = .bool r1 ∧ G = [] ∧ own = []) := by
  refine VCalls.intro Try.func67 rfl (len rfl) fun E hC hW hD hU => ?_
  unfold journal_waits_1.f at h
  refine sr <| vs rfl <| nx <| vm rfl <| va (op_lens Try.underlying9 rfl) <| VL.letter (decide ((a0.size : Int) > 1000)) fun b25344 hb25344 => va (op_cmp rfl rfl (congrArg some hb25344)) <| vs rfl <| dt <| VC.ret <| ?_
  obtain rfl := Option.some.inj h
  subst hb25344
  exact rq 2 rfl ⟨rfl, rfl, rfl⟩

theorem slices_IndexFunc_string_string_s47.ok (k : Nat) (l0 : List ByteArray) (v0 : Value) (r1 : Int) (h : slices_IndexFunc_string_string_s47.f k l0 = some r1) :
    VCalls Try.prog 74 [v0, (.func (.func 67) #[] #[])] [.row v0 1 (l0.map enc_str)] (fun v G own => v = iv r1 ∧ G = [] ∧ own = []) := by
  refine VCalls.intro Try.func74 rfl (len rfl) fun E hC hW hD hU => ?_
  unfold slices_IndexFunc_string_string_s47.f at h
  refine sr <| vs rfl <| ds <| sr <| vm rfl <| va (op_len (m := l0.length) 0 lenm Try.underlying22 rfl rfl) <| vm rfl <| dt <| VC.block <|
   VC.loop1 (fun (i25404 : Int) => ⟨19, [(0, v0), (1, (.func (.func 67) #[] #[])), (4, iv 0), (7, iv (l0.length : Int)), (8, iv i25404)], [.row v0 1 (l0.map enc_str)], [], []⟩) (fun (ml1 : Nat) (i25404 : Int) => slices_IndexFunc_string_string_s47.l1 k l0 ml1 i25404 = some r1) k 0 [] [] h ⟨rfl, ⟨rfl, rfl, rfl, rfl, rfl, trivial⟩, ⟨⟨0, rfl⟩, trivial⟩, rfl, by decide, rfl, by decide⟩ (by intros; simp [slices_IndexFunc_string_string_s47.l1]) <|
   ?_
  clear h
  intro ml1 ihl1 i25404 h
  simp only [slices_IndexFunc_string_string_s47.l1] at h
  refine sr <| VL.letter (decide (i25404 < (l0.length : Int))) fun b25422 hb25422 => va (op_cmp rfl rfl (congrArg some hb25422)) <| ds <| ?_
  replace h := iC h
  rcases h with ⟨c25424, h⟩ | ⟨c25424, h⟩
  · cases lT c25424 hb25422
    refine ct <| sk <| sq <| VC.block <| sr <| vm rfl <| vs rfl <| nx <| vm rfl <| vm rfl <| vm rfl <| ?_
    replace h := iN h
    obtain ⟨c25432, h⟩ := h
    replace h := bd h
    obtain ⟨x25433, hx25433, h⟩ := h
    refine VL.open (m := l0.length) 0 lenm rfl (pos_get hx25433) <| ?_
    rintro ad25434 n25435 rfl
    refine va (op_indexAddr Try.underlying22 TI9 rfl rfl c25432 (lt_get c25432 hx25433) rfl) <| va (op_load_row (sz := 1) (o := 0) 0 i25404.toNat 1 rfl rfl (get_map hx25433) TI9 rfl (by decide)) <| ?_
    replace h := bd h
    obtain ⟨t25436, hA25437, h⟩ := h
    refine sC (o_call0 FO67 (journal_waits_1.ok x25433 t25436 hA25437) rfl rfl (ltn rfl) (All_of .nil)) <| ?_
    rintro _ _ _ ⟨rfl, rfl, rfl⟩
    refine dt <| ?_
    replace h := iC h
    rcases h with ⟨c25438, h⟩ | ⟨c25438, h⟩
    · obtain rfl := c25438
      refine ct <| sr <| vm rfl <| vs rfl <| dt <| VC.ret <| VR.block <| VR.then <| VR.then <| VR.block <| VR.then <| ?_
      obtain rfl := Option.some.inj h
      exact rq 4 rfl ⟨rfl, rfl, rfl⟩
    obtain rfl := Bool.eq_false_iff.2 c25438
    refine cf <| VC.skip <| VN.block <| tr <| va (op_ari64 rfl rfl rfl) <| vm rfl <| dn <| VN.again [] [] (ihl1 (wrap64 (i25404 + 1)) h)
  cases lF c25424 hb25422
  refine cf <| VC.exit <| VX.then <| VX.then <| VX.hit <| tx <| vs rfl <| dt <| VC.ret <| ?_
  obtain rfl := Option.some.inj h
  exact rq 4 rfl ⟨rfl, rfl, rfl⟩

theorem slices_ContainsFunc_string_string_s47.ok (k : Nat) (l0 : List ByteArray) (v0 : Value) (r1 : Bool) (h : slices_ContainsFunc_string_string_s47.f k l0 = some r1) :
    VCalls Try.prog 53 [v0, (.func (.func 67) #[] #[])] [.row v0 1 (l0.map enc_str)] (fun v G own => v = .bool r1 ∧ G = [] ∧ own = []) := by
  refine VCalls.intro Try.func53 rfl (len rfl) fun E hC hW hD hU => ?_
  unfold slices_ContainsFunc_string_string_s47.f at h
  refine sr <| vs rfl <| nx <| vm rfl <| vm rfl <| ?_
  replace h := bd h
  obtain ⟨t25439, hA25440, h⟩ := h
  refine sC (o_call0 FO74 (slices_IndexFunc_string_string_s47.ok k l0 v0 t25439 hA25440) rfl rfl (ltn rfl) (All_of (.cons (mG 0 rfl) .nil))) <| ?_
  rintro _ _ _ ⟨rfl, rfl, rfl⟩
  refine VL.letter (decide (t25439 ≥ 0)) fun b25441 hb25441 => va (op_cmp rfl rfl (congrArg some hb25441)) <| vs rfl <| dt <| VC.ret <| ?_
  obtain rfl := Option.some.inj h
  subst hb25441
  exact rq 4 rfl ⟨rfl, rfl, rfl⟩

end Go.Proofs.Ytipeglbeongfmaa.PJournalOpens
