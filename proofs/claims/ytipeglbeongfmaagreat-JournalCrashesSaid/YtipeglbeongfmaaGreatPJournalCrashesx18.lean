/- Written by a program of this repo: what the program's functions do, each as a Lean function, shown of the loaded code; or a statement's row over that; no condition of its own. -/
import Derived.Test.YtipeglbeongfmaaGreatPJournalCrashesx17
namespace Go.Proofs.YtipeglbeongfmaaGreat.PJournalCrashes
open Go Go.RowKit Go.Proofs.YtipeglbeongfmaaGreatV
set_option linter.unusedVariables false
set_option linter.unusedSimpArgs false
set_option maxHeartbeats 4000000
set_option maxRecDepth 100000

theorem tarryref05_First.ok (k : Nat) (l0_0 : List ByteArray) (l0_1 : List S71) (a0_2 : Int) (a0_3 : Int) (a0_4 : Int) (l0_5 : List ByteArray) (l0_6 : List ByteArray) (a1 : Int) (a2 : Int) (a3 : ByteArray) (v0_0 : Value) (v0_1 : Value) (v0_5 : Value) (v0_6 : Value) (r1 : List ByteArray) (r2 : List S71) (h : tarryref05_First.f k l0_0 l0_1 a0_2 a0_3 a0_4 l0_5 l0_6 a1 a2 a3 = some (r1, r2)) :
    VCalls Tryz.prog 18 [.agg #[v0_0, v0_1, iv a0_2, iv a0_3, iv a0_4, v0_5, v0_6], iv a1, iv a2, .string a3] [.row v0_0 1 (l0_0.map enc_str), .row v0_1 2 (l0_1.map enc71), .row v0_5 1 (l0_5.map enc_str), .row v0_6 1 (l0_6.map enc_str)] (fun v G own => ∃ w0 w1 : Value, v = .agg #[w0, w1] ∧ G = [.row w0 1 (r1.map enc_str)] ∧ own = [(w1, 72, 2, r2.map enc71)]) := by
  refine VCalls.introU (fun T => T = 5) Tryz.func18 rfl (len rfl) fun E hC hW hD hU => ?_
  unfold tarryref05_First.f at h
  refine sr <| sG (o_box rfl (.agg (.f 0 rfl (.f 1 rfl (.c rfl (.c rfl (.c rfl (.f 2 rfl (.f 3 rfl .nil))))))))) fun g29942 => sG (o_alloc Z25 ZL25) fun g29943 => nx <| va (op_fieldAddr FI27_0 rfl (add_at _ _ _)) <| va (op_load 1 2 rfl rfl TI25 rfl (fun h => absurd h (by decide))) <|
   sG (o_alloc Z25 ZL25) fun g29944 => s1 (o_store 0 2 rfl rfl rfl TI25 (.agg (.f 0 rfl (.f 1 rfl .nil))) rfl (len rfl)) <| nx <| va (op_fieldAddr FI25_0 rfl (add_at _ _ _)) <| va (op_load 0 1 rfl rfl TI22 rfl (by decide)) <| va (op_len (m := l0_0.length) 0 lenm Tryz.underlying22 rfl rfl) <|
   va (op_ari64 rfl rfl rfl) <| va (op_quo rfl rfl (by decide) rfl) <| vs rfl <| ds <| sr <| vs rfl <| dt <| VC.block <|
   VC.loop5 (fun (i31464 : Int) (v31466 : Value) (l31467 : List ByteArray) (v31469 : Value) (l31470 : List S71) => ⟨78, [(1, iv a1), (2, iv a2), (3, .string a3), (4, pt g29942 0), (8, pt g29943 0), (9, pt g29944 0), (10, iv (IntKind.i64.wrap ((wrap64 ((l0_0.length : Int) - 2)).tdiv 2))), (11, iv i31464)], [.row v31466 1 (l31467.map enc_str), .row v31469 2 (l31470.map enc71), .row v0_0 1 (l0_0.map enc_str), .row v0_1 2 (l0_1.map enc71), .row v0_5 1 (l0_5.map enc_str), .row v0_6 1 (l0_6.map enc_str)], [(g29944, 25, [v31466, v31469]), (g29943, 25, [sn, sn]), (g29942, 27, [v0_0, v0_1, iv a0_2, iv a0_3, iv a0_4, v0_5, v0_6])], []⟩) (fun (ml5 : Nat) (i31464 : Int) (v31466 : Value) (l31467 : List ByteArray) (v31469 : Value) (l31470 : List S71) => tarryref05_First.l5 k a0_2 a1 a2 a3 l0_0 ml5 i31464 l31467 l31470 = some (r1, r2)) k 0 v0_0 l0_0 v0_1 l0_1 [0, 1, 2] [] h ⟨rfl, ⟨rfl, rfl, rfl, rfl, rfl, rfl, rfl, rfl, trivial⟩, ⟨⟨0, rfl⟩, ⟨1, rfl⟩, ⟨0, rfl⟩, ⟨1, rfl⟩, ⟨2, rfl⟩, ⟨3, rfl⟩, trivial⟩, rfl, by decide, rfl, by decide⟩ (by intros; simp [tarryref05_First.l5]) <|
   ?_
  clear h
  intro ml5 ihl5 i31464 v31466 l31467 v31469 l31470 h
  simp only [tarryref05_First.l5] at h
  refine sq <| sr <| vm rfl <| vm rfl <| VL.letter (decide (i31464 < (IntKind.i64.wrap ((wrap64 ((l0_0.length : Int) - 2)).tdiv 2)))) fun b31860 hb31860 => va (op_cmp rfl rfl (congrArg some hb31860)) <| dt <| ?_
  replace h := iC h
  rcases h with ⟨c31861, h⟩ | ⟨c31861, h⟩
  · cases lT c31861 hb31860
    refine ct <| sk <| sq <| VC.block <| sr <| vm rfl <| vm rfl <| va (op_ari64 rfl rfl rfl) <| va (op_ari64 rfl rfl rfl) <| vm rfl <| va (op_ari64 rfl rfl rfl) <| vs rfl <| nx <| va (op_fieldAddr FI25_0 rfl (add_at _ _ _)) <| va (op_load 0 1 rfl rfl TI22 rfl (by decide)) <| vm rfl <| ?_
    replace h := iN h
    obtain ⟨c32049, h⟩ := h
    replace h := bd h
    obtain ⟨x32050, hx32050, h⟩ := h
    refine VL.open (m := l31467.length) 0 lenm rfl (pos_get hx32050) <| ?_
    rintro ad32051 n32052 rfl
    refine va (op_indexAddr Tryz.underlying22 TI9 rfl rfl c32049 (lt_get c32049 hx32050) rfl) <|
     va (op_load_row (sz := 1) (o := 0) 0 (wrap64 ((wrap64 (2 + (wrap64 (a1 * (IntKind.i64.wrap ((wrap64 ((l0_0.length : Int) - 2)).tdiv 2)))))) + i31464)).toNat 1 rfl rfl (get_map hx32050) TI9 rfl (by decide)) <|
     o_strBytesB Tryz.underlying9 Tryz.underlying68 Tryz.underlying5 (by rw [hU]) rfl (ltn rfl) rfl fun g32053 n32054 z32055 => vs rfl <| nx <| vs rfl <| ds <| sr <| vs rfl <| dt <| VC.block <|
     VC.loop3 (fun (q32159 : Bool) (i32160 : Int) (l32161 : List Int) => ⟨78, [(1, iv a1), (2, iv a2), (3, .string a3), (4, pt g29942 0), (8, pt g29943 0), (9, pt g29944 0), (10, iv (IntKind.i64.wrap ((wrap64 ((l0_0.length : Int) - 2)).tdiv 2))), (11, iv i31464), (12, iv (wrap64 ((wrap64 (2 + (wrap64 (a1 * (IntKind.i64.wrap ((wrap64 ((l0_0.length : Int) - 2)).tdiv 2)))))) + i31464))), (13, .slice (some ⟨g32053, 0, none⟩) x32050.size n32054), (14, .bool q32159), (15, iv i32160), (24, iv i31464), (25, iv (IntKind.i64.wrap ((wrap64 ((l0_0.length : Int) - 2)).tdiv 2))), (26, .bool true), (29, iv a1), (30, iv (IntKind.i64.wrap ((wrap64 ((l0_0.length : Int) - 2)).tdiv 2))), (31, iv (wrap64 (a1 * (IntKind.i64.wrap ((wrap64 ((l0_0.length : Int) - 2)).tdiv 2))))), (32, iv (wrap64 (2 + (wrap64 (a1 * (IntKind.i64.wrap ((wrap64 ((l0_0.length : Int) - 2)).tdiv 2))))))), (33, iv i31464), (34, iv (wrap64 ((wrap64 (2 + (wrap64 (a1 * (IntKind.i64.wrap ((wrap64 ((l0_0.length : Int) - 2)).tdiv 2)))))) + i31464))), (35, pt g29944 0), (36, (.slice (some ad32051) l31467.length n32052)), (37, iv (wrap64 ((wrap64 (2 + (wrap64 (a1 * (IntKind.i64.wrap ((wrap64 ((l0_0.length : Int) - 2)).tdiv 2)))))) + i31464))), (39, .string x32050), (40, .slice (some ⟨g32053, 0, none⟩) x32050.size n32054)], [.row (.slice (some ad32051) l31467.length n32052) 1 (l31467.map enc_str), .row v31469 2 (l31470.map enc71), .row v0_0 1 (l0_0.map enc_str), .row v0_1 2 (l0_1.map enc71), .row v0_5 1 (l0_5.map enc_str), .row v0_6 1 (l0_6.map enc_str)], [(g32053, 5, ints .u8 (l32161 ++ z32055)), (g29944, 25, [(.slice (some ad32051) l31467.length n32052), v31469]), (g29943, 25, [sn, sn]), (g29942, 27, [v0_0, v0_1, iv a0_2, iv a0_3, iv a0_4, v0_5, v0_6])], []⟩) (fun (ml9 : Nat) (q32159 : Bool) (i32160 : Int) (l32161 : List Int) => tarryref05_First.l9 k (tarryref05_First.l5 k a0_2 a1 a2 a3 l0_0 ml5) a1 a2 a3 i31464 l0_0 l31467 l31470 x32050 ml9 q32159 i32160 l32161 = some (r1, r2)) k false 0 (byI x32050) [0, 1, 2, 3] [] h ⟨rfl, ⟨rfl, rfl, rfl, rfl, rfl, rfl, rfl, rfl, rfl, rfl, rfl, rfl, rfl, rfl, rfl, rfl, rfl, rfl, rfl, rfl, rfl, rfl, rfl, rfl, rfl, rfl, trivial⟩, ⟨⟨0, rfl⟩, ⟨1, rfl⟩, ⟨2, rfl⟩, ⟨3, rfl⟩, ⟨4, rfl⟩, ⟨5, rfl⟩, trivial⟩, rfl, by decide, rfl, by decide⟩ (by intros; simp [tarryref05_First.l9]) <|
     ?_
    clear h
    intro ml9 ihl9 q32159 i32160 l32161 h
    simp only [tarryref05_First.l9] at h
    refine sq <| sr <| vm rfl <| VL.letter (decide (i32160 < 64)) fun b32201 hb32201 => va (op_cmp rfl rfl (congrArg some hb32201)) <| dt <| ?_
    replace h := iC h
    rcases h with ⟨c32202, h⟩ | ⟨c32202, h⟩
    · cases lT c32202 hb32201
      refine ct <| sk <| sq <| VC.block <| sr <| vm rfl <| va (op_ari64 rfl rfl rfl) <| vm rfl <| va (op_ari64 rfl rfl rfl) <| vm rfl <| va (op_ari64 rfl rfl rfl) <| vs rfl <| nx <| vm rfl <|
       VL.letter (decide ((wrap64 ((wrap64 ((wrap64 (64 * i31464)) + i32160)) - a2)) ≥ 0)) fun b32218 hb32218 => va (op_cmp rfl rfl (congrArg some hb32218)) <| vm rfl <| ?_
      replace h := iC h
      rcases h with ⟨c32219, h⟩ | ⟨c32219, h⟩
      · cases lT c32219 hb32218
        refine vm rfl <| vm rfl <| va (op_lens Tryz.underlying9 rfl) <| VL.letter (decide ((wrap64 ((wrap64 ((wrap64 (64 * i31464)) + i32160)) - a2)) < (a3.size : Int))) fun b32220 hb32220 => va (op_cmp rfl rfl (congrArg some hb32220)) <| va (op_pick rfl rfl) <| dt <| ?_
        replace h := iC h
        rcases h with ⟨c32221, h⟩ | ⟨c32221, h⟩
        · cases lT c32221 hb32220
          refine ct <| sr <| vm rfl <| vm rfl <| vm rfl <| vm rfl <| ?_
          replace h := iN h
          obtain ⟨c32222, h⟩ := h
          replace h := iN h
          obtain ⟨c32223, h⟩ := h
          refine va (op_indexS Tryz.underlying9 rfl rfl c32222 c32223 rfl) <| ?_
          replace h := iN h
          obtain ⟨c32224, h⟩ := h
          replace h := iN h
          obtain ⟨c32225, h⟩ := h
          refine va (op_indexAddrB Tryz.underlying68 TI5 rfl rfl c32224 c32225) <| ?_
          replace h := iN h
          obtain ⟨c32226, h⟩ := h
          refine s1 (o_storeB 0 rfl rfl rfl TI5 c32226) <| dr <| vs rfl <| dn <| VN.block <| tr <| vm rfl <| va (op_ari64 rfl rfl rfl) <| vs rfl <| dn <| VN.again [0, 1, 2, 3] [] (ihl9 true (wrap64 (i32160 + 1)) (l32161.set i32160.toNat (bt a3 (wrap64 ((wrap64 ((wrap64 (64 * i31464)) + i32160)) - a2)))) h)
        cases lF c32221 hb32220
        refine cf <| VC.skip <| VN.block <| tr <| vm rfl <| va (op_ari64 rfl rfl rfl) <| vs rfl <| dn <| VN.again [0, 1, 2, 3] [] (ihl9 q32159 (wrap64 (i32160 + 1)) l32161 h)
      cases lF c32219 hb32218
      refine un rfl <| un rfl <| un rfl <| un rfl <| va (op_pick rfl rfl) <| dt <| cf <| VC.skip <| VN.block <| tr <| vm rfl <| va (op_ari64 rfl rfl rfl) <| vs rfl <| dn <| VN.again [0, 1, 2, 3] [] (ihl9 q32159 (wrap64 (i32160 + 1)) l32161 h)
    cases lF c32202 hb32201
    refine cf <| VC.exit <| VX.then <| VX.then <| VX.hit <| tx <| vm rfl <| dt <| ?_
    replace h := iC h
    rcases h with ⟨c32227, h⟩ | ⟨c32227, h⟩
    · obtain rfl := c32227
      refine ct <| rg <| va (op_load 1 2 rfl rfl TI25 rfl (fun h => absurd h (by decide))) <| vm rfl <| vm rfl <| ?_
      replace h := iN h
      obtain ⟨c32228, h⟩ := h
      refine va (op_bytesStrB 0 Tryz.underlying68 Tryz.underlying9 Tryz.underlying5 rfl rfl c32228) <| ?_
      replace h := bd h
      obtain ⟨⟨r32229, r32230⟩, hA32231, h⟩ := h
      dsimp only at h
      refine sC (o_call0 FO41 (tarryref05_put.ok l31467 l31470 (wrap64 ((wrap64 (2 + (wrap64 (a1 * (IntKind.i64.wrap ((wrap64 ((l0_0.length : Int) - 2)).tdiv 2)))))) + i31464)) (strOfNums l32161) (.slice (some ad32051) l31467.length n32052) v31469 r32229 r32230 hA32231) rfl rfl (ltn rfl) (All_of (.cons (mG 0 rfl) (.cons (mG 1 rfl) .nil)))) <|
       ?_
      rintro _ _ _ ⟨v32233, v32235, rfl, rfl, rfl⟩
      refine s1 (o_store 1 2 rfl rfl rfl TI25 (.agg (.f 0 rfl (.r 0 rfl .nil))) rfl (len rfl)) <| dn <| VN.block <| tr <| vm rfl <| va (op_ari64 rfl rfl rfl) <| vs rfl <| dn <| VN.freezeRow' 0 rfl <| VN.again [1, 2, 3] [] (ihl5 (wrap64 (i31464 + 1)) v32233 r32229 v32235 r32230 h)
    obtain rfl := Bool.eq_false_iff.2 c32227
    refine cf <| VC.skip <| VN.block <| tr <| vm rfl <| va (op_ari64 rfl rfl rfl) <| vs rfl <| dn <| VN.again [1, 2, 3] [] (ihl5 (wrap64 (i31464 + 1)) (.slice (some ad32051) l31467.length n32052) l31467 v31469 l31470 h)
  cases lF c31861 hb31860
  refine cf <| VC.exit <| VX.then <| VX.then <| VX.hit <| th <| ?_
  replace h := bd h
  obtain ⟨t32236, hA32237, h⟩ := h
  replace h := bd h
  obtain ⟨⟨r32238, r32239⟩, hA32240, h⟩ := h
  dsimp only at h
  refine VC.join2 (fun (v32242 : Value) (v32244 : Value) => ⟨78, [(8, pt g29943 0)], [.row v32242 1 (r32238.map enc_str)], [(g29943, 25, [v32242, v32244])], [(v32244, 72, 2, r32239.map enc71)]⟩) (fun (v32242 : Value) (v32244 : Value) => True) ?_ ?_
  · refine dw ⟨0, [], [], [(g29944, 25, [v31466, v31469]), (g29942, 27, [v0_0, v0_1, iv a0_2, iv a0_3, iv a0_4, v0_5, v0_6])], []⟩ 8 <| av 0 1 rfl (op_load 0 2 rfl rfl TI25 rfl (fun h => absurd h (by decide))) <| av 1 3 rfl (op_fieldAddr FI27_1 rfl (add_at _ _ _)) <|
     av 2 7 rfl (op_load 1 1 rfl rfl TI3 rfl (by decide)) <| av 3 15 rfl (op_ari64 rfl rfl rfl) <| av 4 31 rfl (op_rem rfl rfl (by decide) rfl) <| aC 5 63 rfl (o_call0 FO42 (tarryref05_zeros.ok 64 t32236 hA32237) rfl rfl (ltn rfl) (All_of .nil)) <| ?_
    rintro _ _ _ ⟨rfl, rfl, rfl⟩
    refine ⟨⟨trivial, ⟨⟨0, rfl⟩, ⟨2, rfl⟩, trivial⟩, trivial⟩, ?_⟩
    refine aC 6 127 rfl (o_call0 FO41 (tarryref05_put.ok l31467 l31470 ((wrap64 (a0_2 + 1)).tmod 2) t32236 v31466 v31469 r32238 r32239 hA32240) rfl rfl (ltn rfl) (All_of (.cons (mG 0 rfl) (.cons (mG 1 rfl) .nil)))) <| ?_
    rintro _ _ _ ⟨v32242, v32244, rfl, rfl, rfl⟩
    refine ⟨⟨trivial, ⟨⟨0, rfl⟩, ⟨2, rfl⟩, trivial⟩, trivial⟩, ?_⟩
    exact aO 7 255 rfl (o_store 1 2 rfl rfl rfl TI25 (.agg (.f 0 rfl (.r 0 rfl .nil))) rfl (len rfl)) <| ad <| VN.meet2 v32242 v32244 [1] [0] trivial
  intro v32242 v32244 _
  refine VC.ret <| ?_
  simp only [Option.some.injEq, Prod.mk.injEq] at h
  obtain ⟨rfl, rfl⟩ := h
  exact rf [.cell 8 25] [0] (.cell 0 rfl rfl TI25 (fun h => absurd h (by decide)) .nil) ⟨v32242, v32244, rfl, rfl, rfl⟩

theorem tarryref03_Kept.ok (k : Nat) (a0 : Int) (a1 : Int)  (r1 : Bool) (h : tarryref03_Kept.f k a0 a1 = some r1) :
    VCalls Tryz.prog 44 [.int .u64 a0, iv a1] [] (fun v G own => v = .bool r1 ∧ G = [] ∧ own = []) := by
  refine VCalls.intro Tryz.func44 rfl (len rfl) fun E hC hW hD hU => ?_
  unfold tarryref03_Kept.f at h
  refine sr <| vs rfl <| ds <| sr <| vs rfl <| dt <| VC.block <|
   VC.loop2 (fun (i32300 : Int) (i32301 : Int) => ⟨16, [(0, .int .u64 i32300), (1, iv a1), (4, .bool false), (5, iv i32301)], [], [], []⟩) (fun (ml1 : Nat) (i32300 : Int) (i32301 : Int) => tarryref03_Kept.l1 k a1 ml1 i32300 i32301 = some r1) k a0 0 [] [] h ⟨rfl, ⟨rfl, rfl, rfl, rfl, trivial⟩, trivial, rfl, by decide, rfl, by decide⟩ (by intros; simp [tarryref03_Kept.l1]) <|
   ?_
  clear h
  intro ml1 ihl1 i32300 i32301 h
  simp only [tarryref03_Kept.l1] at h
  refine sq <| sr <| vm rfl <| vm rfl <| VL.letter (decide (i32301 < a1)) fun b32309 hb32309 => va (op_cmp rfl rfl (congrArg some hb32309)) <| dt <| ?_
  replace h := iC h
  rcases h with ⟨c32310, h⟩ | ⟨c32310, h⟩
  · cases lT c32310 hb32309
    refine ct <| sk <| sq <| VC.block <| rg <| vm rfl <| va (op_quo rfl rfl (by decide) rfl) <| vs rfl <| dn <| VN.block <| tr <| vm rfl <| va (op_ari64 rfl rfl rfl) <| vs rfl <| dn <| VN.again [] [] (ihl1 (IntKind.u64.wrap (i32300.tdiv 2)) (wrap64 (i32301 + 1)) h)
  cases lF c32310 hb32309
  refine cf <| VC.exit <| VX.then <| VX.then <| VX.hit <| tx <| vm rfl <| va (op_rem rfl rfl (by decide) rfl) <| VL.letter (((i32300.tmod 2) == 1)) fun b32311 hb32311 => va (op_cmp rfl rfl (congrArg some hb32311)) <| vs rfl <| dt <| VC.ret <| ?_
  obtain rfl := Option.some.inj h
  subst hb32311
  exact rq 4 rfl ⟨rfl, rfl, rfl⟩

theorem tarryref03_Set.ok (l0 : List ByteArray) (a1 : Int) (a2 : ByteArray) (v0 : Value) (r1 : List ByteArray) (h : tarryref03_Set.f l0 a1 a2 = some r1) :
    VCalls Tryz.prog 45 [v0, iv a1, .string a2] [.row v0 1 (l0.map enc_str)] (fun v G own => ∃ w0 : Value, v = w0 ∧ G = [] ∧ own = [(w0, 9, 1, r1.map enc_str)]) := by
  refine VCalls.intro Tryz.func45 rfl (len rfl) fun E hC hW hD hU => ?_
  unfold tarryref03_Set.f at h
  refine sr <| vs rfl <| nx <| sG (o_buildSlice (vals := []) (cells := #[]) (es := List.map enc_str ([] : List ByteArray)) Tryz.underlying22 TI9 Z9 rfl (by decide) (by decide) (by kernel_rfl) (by kernel_rfl) rfl (flat_map enc_str_ok _)) fun v32317 => vs rfl <| nx <| vm rfl <| vm rfl <| vm rfl <| ?_
  replace h := iN h
  obtain ⟨c32318, h⟩ := h
  replace h := iN h
  obtain ⟨c32319, h⟩ := h
  refine sG (o_slice (m := l0.length) 0 0 a1.toNat lenm cutm Tryz.underlying22 TI9 rfl rfl ⟨rfl, ⟨_, _, rfl, c32318, rfl⟩, Nat.zero_le _, tN (a := a1) (b := (l0.length : Int)) rfl rfl c32319⟩) fun v32321 => ?_
  replace h := iN h
  obtain ⟨c32322, h⟩ := h
  refine sG (o_append 0 appm Tryz.underlying22 EI9 rfl rfl rfl (.inl ⟨0, rfl⟩) (bndm c32322)) fun v32323 => vs rfl <| nx <| vm rfl <| vm rfl <|
   sG (o_buildSlice (vals := [(0, .string a2)]) (cells := #[.string a2]) (es := List.map enc_str ([a2] : List ByteArray)) Tryz.underlying22 TI9 Z9 rfl (by decide) (by decide) (by kernel_rfl) (by kernel_rfl) rfl (flat_map enc_str_ok _)) fun v32326 => ?_
  replace h := iN h
  obtain ⟨c32327, h⟩ := h
  refine sG (o_append 1 appm Tryz.underlying22 EI9 rfl rfl rfl (.inr ⟨0, _, rfl⟩) (bndm c32327)) fun v32328 => vs rfl <| nx <| vm rfl <| vm rfl <| vm rfl <| va (op_ari64 rfl rfl rfl) <| ?_
  replace h := iN h
  obtain ⟨c32330, h⟩ := h
  replace h := iN h
  obtain ⟨c32331, h⟩ := h
  refine sG (o_slice (m := l0.length) 1 ((wrap64 (a1 + 1)).toNat) l0.length lenm cutm Tryz.underlying22 TI9 rfl rfl ⟨⟨_, _, rfl, c32330, rfl⟩, rfl, tN (a := (wrap64 (a1 + 1))) (b := (l0.length : Int)) rfl rfl c32331, Nat.le_refl _⟩) fun v32333 => ?_
  replace h := iN h
  obtain ⟨c32334, h⟩ := h
  refine sG (o_append 1 appm Tryz.underlying22 EI9 rfl rfl rfl (.inl ⟨0, rfl⟩) (bndm c32334)) fun v32335 => vs rfl <| nx <| vm rfl <| vs rfl <| dt <| VC.ret <| ?_
  obtain rfl := Option.some.inj h
  exact rf [.tmp 6] [1] (.tmp rfl .nil) ⟨v32335, rfl, rfl, rfl⟩

theorem tarryref03_Crash.ok (k : Nat) (l0_0 : List ByteArray) (l0_1 : List S71) (a1 : Int) (a2 : Int) (v0_0 : Value) (v0_1 : Value) (r1 : List ByteArray) (r2 : List S71) (h : tarryref03_Crash.f k l0_0 l0_1 a1 a2 = some (r1, r2)) :
    VCalls Tryz.prog 21 [.agg #[v0_0, v0_1], .int .u64 a1, iv a2] [.row v0_0 1 (l0_0.map enc_str), .row v0_1 2 (l0_1.map enc71)] (fun v G own => ∃ w0 w1 : Value, v = .agg #[w0, w1] ∧ G = [.row w0 1 (r1.map enc_str)] ∧ own = [(w1, 72, 2, r2.map enc71)]) := by
  refine VCalls.intro Tryz.func21 rfl (len rfl) fun E hC hW hD hU => ?_
  unfold tarryref03_Crash.f at h
  refine sr <| sG (o_box rfl (.agg (.f 0 rfl (.f 1 rfl .nil)))) fun g32527 => sG (o_alloc Z25 ZL25) fun g32528 => nx <| va (op_fieldAddr FI25_0 rfl (add_at _ _ _)) <| va (op_load 1 1 rfl rfl TI22 rfl (by decide)) <| vs rfl <| nx <| vs rfl <| dt <|
   VC.join3 (fun (v32900 : Value) (l32901 : List ByteArray) (i32902 : Int) => ⟨66, [(2, iv a2), (3, pt g32527 0), (6, pt g32528 0), (7, v32900), (8, iv i32902)], [.row v32900 1 (l32901.map enc_str), .row v0_0 1 (l0_0.map enc_str), .row v0_1 2 (l0_1.map enc71)], [(g32528, 25, [sn, sn]), (g32527, 25, [v0_0, v0_1])], []⟩) (fun (v32900 : Value) (l32901 : List ByteArray) (i32902 : Int) => tarryref03_Crash.j2 k a2 l0_1 l32901 i32902 = some (r1, r2)) ?_ ?_
  · refine sr <| va (op_fieldAddr FI25_1 rfl (add_at _ _ _)) <| va (op_load 1 1 rfl rfl TI23 rfl (by decide)) <| va (op_len (m := l0_1.length) 1 lenm Tryz.underlying23 rfl rfl) <| vm rfl <| dt <| VC.block <|
     VC.loop4 (fun (v32841 : Value) (l32842 : List ByteArray) (i32843 : Int) (i32844 : Int) => ⟨66, [(1, .int .u64 a1), (2, iv a2), (3, pt g32527 0), (6, pt g32528 0), (7, v32841), (8, iv i32843), (15, v0_1), (16, iv (l0_1.length : Int)), (17, iv i32844)], [.row v32841 1 (l32842.map enc_str), .row v0_1 2 (l0_1.map enc71), .row v0_0 1 (l0_0.map enc_str)], [(g32528, 25, [sn, sn]), (g32527, 25, [v0_0, v0_1])], []⟩) (fun (ml3 : Nat) (v32841 : Value) (l32842 : List ByteArray) (i32843 : Int) (i32844 : Int) => tarryref03_Crash.l3 k a1 a2 l0_1 ml3 l32842 i32843 i32844 = some (r1, r2)) k v0_0 l0_0 (-1) 0 [0, 1] [] h ⟨rfl, ⟨rfl, rfl, rfl, rfl, rfl, rfl, rfl, rfl, rfl, trivial⟩, ⟨⟨0, rfl⟩, ⟨1, rfl⟩, ⟨0, rfl⟩, trivial⟩, rfl, by decide, rfl, by decide⟩ (by intros; simp [tarryref03_Crash.l3]) <|
     ?_
    clear h
    intro ml3 ihl3 v32841 l32842 i32843 i32844 h
    simp only [tarryref03_Crash.l3] at h
    refine sr <| VL.letter (decide (i32844 < (l0_1.length : Int))) fun b32872 hb32872 => va (op_cmp rfl rfl (congrArg some hb32872)) <| ds <| ?_
    replace h := iC h
    rcases h with ⟨c32874, h⟩ | ⟨c32874, h⟩
    · cases lT c32874 hb32872
      refine ct <| sk <| sq <| VC.block <| sr <| vm rfl <| ?_
      replace h := iN h
      obtain ⟨c32887, h⟩ := h
      replace h := bd h
      obtain ⟨x32888, hx32888, h⟩ := h
      refine VL.open (m := l0_1.length) 1 lenm rfl (pos_get hx32888) <| ?_
      rintro ad32889 n32890 rfl
      refine va (op_indexAddr Tryz.underlying23 TI72 rfl rfl c32887 (lt_get c32887 hx32888) rfl) <| va (op_load_row (sz := 2) (o := 0) 1 i32844.toNat 2 rfl rfl (get_map hx32888) TI72 rfl (fun h => absurd h (by decide))) <| sG (o_alloc Z72 ZL72) fun g32891 => vs rfl <|
       s1 (o_store 0 2 rfl rfl rfl TI72 (.agg (.of rfl)) rfl (len rfl)) <| nx <| vm rfl <| vm rfl <| ?_
      replace h := bd h
      obtain ⟨t32892, hA32893, h⟩ := h
      refine sC (o_call0 FO44 (tarryref03_Kept.ok k a1 i32844 t32892 hA32893) rfl rfl (ltn rfl) (All_of .nil)) <| ?_
      rintro _ _ _ ⟨rfl, rfl, rfl⟩
      refine dt <| ?_
      replace h := iC h
      rcases h with ⟨c32894, h⟩ | ⟨c32894, h⟩
      · obtain rfl := c32894
        refine ct <| rg <| vm rfl <| va (op_fieldAddr FI72_0 rfl (add_at _ _ _)) <| va (op_load 0 1 rfl rfl TI3 rfl (by decide)) <| va (op_fieldAddr FI72_1 rfl (add_at _ _ _)) <| va (op_load 0 1 rfl rfl TI9 rfl (by decide)) <| ?_
        replace h := bd h
        obtain ⟨r32895, hA32896, h⟩ := h
        refine sC (o_call0 FO45 (tarryref03_Set.ok l32842 x32888.f0 x32888.f1 v32841 r32895 hA32896) rfl rfl (ltn rfl) (All_of (.cons (mG 0 rfl) .nil))) <| ?_
        rintro v32898 _ _ ⟨_, rfl, rfl, rfl⟩
        refine vs rfl <| dn <| VN.block <| tr <| va (op_ari64 rfl rfl rfl) <| vm rfl <| dn <| VN.freezeRow' 0 rfl <| VN.again [1, 2] [] (ihl3 v32898 r32895 i32843 (wrap64 (i32844 + 1)) h)
      obtain rfl := Bool.eq_false_iff.2 c32894
      refine cf <| rg <| vm rfl <| vs rfl <| dn <| VN.block <| tr <| va (op_ari64 rfl rfl rfl) <| vm rfl <| dn <| VN.again [1, 2] [] (ihl3 v32841 l32842 i32844 (wrap64 (i32844 + 1)) h)
    cases lF c32874 hb32872
    refine cf <| VC.exit <| VX.then <| VX.then <| VX.hit <| VN.meet3 v32841 l32842 i32843 [0, 1] [] h
  clear h
  intro v32900 l32901 i32902 h
  unfold tarryref03_Crash.j2 at h
  refine sq <| sr <| vm rfl <| VL.letter (decide (i32902 ≥ 0)) fun b32936 hb32936 => va (op_cmp rfl rfl (congrArg some hb32936)) <| vm rfl <| ?_
  replace h := iC h
  rcases h with ⟨c32937, h⟩ | ⟨c32937, h⟩
  · cases lT c32937 hb32936
    refine vm rfl <| VL.letter (decide (a2 > 0)) fun b32938 hb32938 => va (op_cmp rfl rfl (congrArg some hb32938)) <| va (op_pick rfl rfl) <| vm rfl <| ?_
    replace h := iC h
    rcases h with ⟨c32939, h⟩ | ⟨c32939, h⟩
    · cases lT c32939 hb32938
      refine vm rfl <| VL.letter (decide (a2 < 64)) fun b32940 hb32940 => va (op_cmp rfl rfl (congrArg some hb32940)) <| va (op_pick rfl rfl) <| dt <| ?_
      replace h := iC h
      rcases h with ⟨c32941, h⟩ | ⟨c32941, h⟩
      · cases lT c32941 hb32940
        refine ct <| sr <| va (op_fieldAddr FI25_1 rfl (add_at _ _ _)) <| va (op_load 1 1 rfl rfl TI23 rfl (by decide)) <| vm rfl <| ?_
        replace h := iN h
        obtain ⟨c32942, h⟩ := h
        replace h := bd h
        obtain ⟨x32943, hx32943, h⟩ := h
        refine VL.open (m := l0_1.length) 2 lenm rfl (pos_get hx32943) <| ?_
        rintro ad32944 n32945 rfl
        refine va (op_indexAddr Tryz.underlying23 TI72 rfl rfl c32942 (lt_get c32942 hx32943) rfl) <| va (op_load_row (sz := 2) (o := 0) 2 i32902.toNat 2 rfl rfl (get_map hx32943) TI72 rfl (fun h => absurd h (by decide))) <|
         sG (o_alloc Z72 ZL72) fun g32946 => s1 (o_store 0 2 rfl rfl rfl TI72 (.agg (.of rfl)) rfl (len rfl)) <| dt <| ?_
        replace h := iN h
        obtain ⟨c32947, h⟩ := h
        replace h := iN h
        obtain ⟨c32948, h⟩ := h
        replace h := iN h
        obtain ⟨c32949, h⟩ := h
        replace h := bd h
        obtain ⟨x32950, hx32950, h⟩ := h
        replace h := iN h
        obtain ⟨c32951, h⟩ := h
        replace h := iN h
        obtain ⟨c32952, h⟩ := h
        replace h := bd h
        obtain ⟨r32953, hA32954, h⟩ := h
        refine VC.open (m := l32901.length) 0 lenm rfl (pos_get hx32950) <| ?_
        rintro ad32923 n32924 rfl
        refine VC.stop1 (fun (v32956 : Value) => ⟨66, [(6, pt g32528 0), (7, v32956)], [], [(g32528, 25, [sn, sn])], [(v32956, 9, 1, r32953.map enc_str)]⟩) (fun (v32956 : Value) => True) ?_ ?_
        · refine dw ⟨0, [], [.row (.slice (some ad32923) l32901.length n32924) 1 (l32901.map enc_str)], [(g32946, 72, [iv x32943.f0, .string x32943.f1])], []⟩ 17 <| av 0 1 rfl (mv rfl) <| av 1 3 rfl (op_fieldAddr FI72_0 rfl (add_at _ _ _)) <| av 2 7 rfl (op_load 0 1 rfl rfl TI3 rfl (by decide)) <|
           av 3 15 rfl (op_fieldAddr FI72_1 rfl (add_at _ _ _)) <| av 4 31 rfl (op_load 0 1 rfl rfl TI9 rfl (by decide)) <| av 5 63 rfl (mv rfl) <|
           av 6 127 rfl (op_sliceS 0 a2.toNat Tryz.underlying9 rfl ⟨rfl, ⟨_, _, rfl, c32947, rfl⟩, Nat.zero_le _, tN (a := a2) (b := (x32943.f1.size : Int)) rfl rfl c32948⟩ rfl) <| av 7 255 rfl (mv rfl) <| av 8 511 rfl (op_fieldAddr FI72_0 rfl (add_at _ _ _)) <|
           av 9 1023 rfl (op_load 0 1 rfl rfl TI3 rfl (by decide)) <| av 10 2047 rfl (op_indexAddr Tryz.underlying22 TI9 rfl rfl c32949 (lt_get c32949 hx32950) rfl) <| av 11 4095 rfl (op_load_row (sz := 1) (o := 0) 0 x32943.f0.toNat 1 rfl rfl (get_map hx32950) TI9 rfl (by decide)) <|
           av 12 8191 rfl (mv rfl) <| av 13 16383 rfl (op_sliceS a2.toNat x32950.size Tryz.underlying9 rfl ⟨⟨_, _, rfl, c32947, rfl⟩, rfl, tN (a := a2) (b := (x32950.size : Int)) rfl rfl c32951, Nat.le_refl _⟩ rfl) <| av 14 32767 rfl (op_adds rfl rfl rfl c32952) <|
           aC 15 65535 rfl (o_call0 FO45 (tarryref03_Set.ok l32901 x32943.f0 ((x32943.f1.extract 0 a2.toNat) ++ (x32950.extract a2.toNat x32950.size)) (.slice (some ad32923) l32901.length n32924) r32953 hA32954) rfl rfl (ltn rfl) (All_of (.cons (mG 0 rfl) .nil))) <| ?_
          rintro v32956 _ _ ⟨_, rfl, rfl, rfl⟩
          refine ⟨⟨⟨⟨0, rfl⟩, trivial⟩, ⟨⟨0, rfl⟩, trivial⟩, trivial⟩, ?_⟩
          exact VA.more ⟨0, [], [.row (.slice (some ad32923) l32901.length n32924) 1 (l32901.map enc_str)], [(g32946, 72, [iv x32943.f0, .string x32943.f1])], [(v32956, 9, 1, r32953.map enc_str)]⟩ ⟨⟨⟨0, rfl⟩, trivial⟩, ⟨⟨0, rfl⟩, trivial⟩, trivial⟩ <| av 16 131071 rfl (ag rfl) <| ad <|
           VN.meet1 v32956 [1] [0] trivial
        intro v32956 _
        refine tx <| vm rfl <| va (op_build (vals := [(0, v32956)]) (vcs := [(0, [v32956])]) (cells := [v32956, sn]) SI25 rfl (.cons ⟨rfl, (.r 0 rfl)⟩ .nil) (by kernel_rfl)) <| s1 (o_store 0 2 rfl rfl rfl TI25 (.agg (.r 0 rfl (.c rfl .nil))) rfl (len rfl)) <| dt <| VC.ret <| ?_
        simp only [Option.some.injEq, Prod.mk.injEq] at h
        obtain ⟨rfl, rfl⟩ := h
        exact VR.freezeRow' 0 rfl <| VR.nilRow' 72 2 <| rf [.cell 6 25] [0] (.cell 0 rfl rfl TI25 (fun h => absurd h (by decide)) .nil) ⟨v32956, sn, rfl, rfl, rfl⟩
      cases lF c32941 hb32940
      refine cf <| sk <| sr <| vm rfl <| va (op_build (vals := [(0, v32900)]) (vcs := [(0, [v32900])]) (cells := [v32900, sn]) SI25 rfl (.cons ⟨rfl, (.f 0 rfl)⟩ .nil) (by kernel_rfl)) <| s1 (o_store 0 2 rfl rfl rfl TI25 (.agg (.f 0 rfl (.c rfl .nil))) rfl (len rfl)) <| dt <| VC.ret <| ?_
      simp only [Option.some.injEq, Prod.mk.injEq] at h
      obtain ⟨rfl, rfl⟩ := h
      exact VR.nilRow' 72 2 <| rf [.cell 6 25] [0] (.cell 0 rfl rfl TI25 (fun h => absurd h (by decide)) .nil) ⟨v32900, sn, rfl, rfl, rfl⟩
    cases lF c32939 hb32938
    refine un rfl <| un rfl <| va (op_pick rfl rfl) <| dt <| cf <| sk <| sr <| vm rfl <| va (op_build (vals := [(0, v32900)]) (vcs := [(0, [v32900])]) (cells := [v32900, sn]) SI25 rfl (.cons ⟨rfl, (.f 0 rfl)⟩ .nil) (by kernel_rfl)) <|
     s1 (o_store 0 2 rfl rfl rfl TI25 (.agg (.f 0 rfl (.c rfl .nil))) rfl (len rfl)) <| dt <| VC.ret <| ?_
    simp only [Option.some.injEq, Prod.mk.injEq] at h
    obtain ⟨rfl, rfl⟩ := h
    exact VR.nilRow' 72 2 <| rf [.cell 6 25] [0] (.cell 0 rfl rfl TI25 (fun h => absurd h (by decide)) .nil) ⟨v32900, sn, rfl, rfl, rfl⟩
  cases lF c32937 hb32936
  refine un rfl <| un rfl <| va (op_pick rfl rfl) <| vm rfl <| un rfl <| un rfl <| va (op_pick rfl rfl) <| dt <| cf <| sk <| sr <| vm rfl <| va (op_build (vals := [(0, v32900)]) (vcs := [(0, [v32900])]) (cells := [v32900, sn]) SI25 rfl (.cons ⟨rfl, (.f 0 rfl)⟩ .nil) (by kernel_rfl)) <|
   s1 (o_store 0 2 rfl rfl rfl TI25 (.agg (.f 0 rfl (.c rfl .nil))) rfl (len rfl)) <| dt <| VC.ret <| ?_
  simp only [Option.some.injEq, Prod.mk.injEq] at h
  obtain ⟨rfl, rfl⟩ := h
  exact VR.nilRow' 72 2 <| rf [.cell 6 25] [0] (.cell 0 rfl rfl TI25 (fun h => absurd h (by decide)) .nil) ⟨v32900, sn, rfl, rfl, rfl⟩

theorem tarryref05_flush.ok (k : Nat) (l0_0 : List ByteArray) (l0_1 : List S71) (v0_0 : Value) (v0_1 : Value) (r1 : List ByteArray) (r2 : List S71) (h : tarryref05_flush.f k l0_0 l0_1 = some (r1, r2)) :
    VCalls Tryz.prog 34 [.agg #[v0_0, v0_1]] [.row v0_0 1 (l0_0.map enc_str), .row v0_1 2 (l0_1.map enc71)] (fun v G own => ∃ w0 w1 : Value, v = .agg #[w0, w1] ∧ G = [.row w0 1 (r1.map enc_str)] ∧ own = [(w1, 72, 2, r2.map enc71)]) := by
  refine VCalls.intro Tryz.func34 rfl (len rfl) fun E hC hW hD hU => ?_
  unfold tarryref05_flush.f at h
  refine sr <| sG (o_box rfl (.agg (.f 0 rfl (.f 1 rfl .nil)))) fun g32970 => sG (o_alloc Z25 ZL25) fun g32971 => nx <| va (op_load 1 2 rfl rfl TI25 rfl (fun h => absurd h (by decide))) <| ?_
  replace h := bd h
  obtain ⟨⟨r32972, r32973⟩, hA32974, h⟩ := h
  dsimp only at h
  refine sC (o_call0 FO21 (tarryref03_Crash.ok k l0_0 l0_1 18446744073709551615 0 v0_0 v0_1 r32972 r32973 hA32974) rfl rfl (ltn rfl) (All_of (.cons (mG 0 rfl) (.cons (mG 1 rfl) .nil)))) <| ?_
  rintro _ _ _ ⟨v32976, v32978, rfl, rfl, rfl⟩
  refine s1 (o_store 0 2 rfl rfl rfl TI25 (.agg (.f 0 rfl (.r 0 rfl .nil))) rfl (len rfl)) <| dt <| VC.ret <| ?_
  simp only [Option.some.injEq, Prod.mk.injEq] at h
  obtain ⟨rfl, rfl⟩ := h
  exact rf [.cell 2 25] [0] (.cell 0 rfl rfl TI25 (fun h => absurd h (by decide)) .nil) ⟨v32976, v32978, rfl, rfl, rfl⟩

end Go.Proofs.YtipeglbeongfmaaGreat.PJournalCrashes
