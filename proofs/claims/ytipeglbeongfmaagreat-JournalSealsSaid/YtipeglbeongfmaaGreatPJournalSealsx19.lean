/- Written by a program of this repo: what the program's functions do, each as a Lean function, shown of the loaded code; or a statement's row over that; no condition of its own. -/
import Derived.Test.YtipeglbeongfmaaGreatPJournalSealsx18
namespace Go.Proofs.YtipeglbeongfmaaGreat.PJournalSeals
open Go Go.RowKit Go.Proofs.YtipeglbeongfmaaGreatV
set_option linter.unusedVariables false
set_option linter.unusedSimpArgs false
set_option maxHeartbeats 4000000
set_option maxRecDepth 100000

theorem tarryref05_First.ok (k : Nat) (l0_0 : List ByteArray) (l0_1 : List S71) (a0_2 : Int) (a0_3 : Int) (a0_4 : Int) (l0_5 : List ByteArray) (l0_6 : List ByteArray) (a1 : Int) (a2 : Int) (a3 : ByteArray) (v0_0 : Value) (v0_1 : Value) (v0_5 : Value) (v0_6 : Value) (r1 : List ByteArray) (r2 : List S71) (h : tarryref05_First.f k l0_0 l0_1 a0_2 a0_3 a0_4 l0_5 l0_6 a1 a2 a3 = some (r1, r2)) :
    VCalls Tryz.prog 18 [.agg #[v0_0, v0_1, iv a0_2, iv a0_3, iv a0_4, v0_5, v0_6], iv a1, iv a2, .string a3] [.row v0_0 1 (l0_0.map enc_str), .row v0_1 2 (l0_1.map enc71), .row v0_5 1 (l0_5.map enc_str), .row v0_6 1 (l0_6.map enc_str)] (fun v G own => ∃ w0 w1 : Value, v = .agg #[w0, w1] ∧ G = [.row w0 1 (r1.map enc_str)] ∧ own = [(w1, 72, 2, r2.map enc71)]) := by
  refine VCalls.introU (fun T => T = 5) Tryz.func18 rfl (len rfl) fun E hC hW hD hU => ?_
  unfold tarryref05_First.f at h
  refine sr <| sG (o_box rfl (.agg (.f 0 rfl (.f 1 rfl (.c rfl (.c rfl (.c rfl (.f 2 rfl (.f 3 rfl .nil))))))))) fun g29907 => sG (o_alloc Z25 ZL25) fun g29908 => nx <| va (op_fieldAddr FI27_0 rfl (add_at _ _ _)) <| va (op_load 1 2 rfl rfl TI25 rfl (fun h => absurd h (by decide))) <|
   sG (o_alloc Z25 ZL25) fun g29909 => s1 (o_store 0 2 rfl rfl rfl TI25 (.agg (.f 0 rfl (.f 1 rfl .nil))) rfl (len rfl)) <| nx <| va (op_fieldAddr FI25_0 rfl (add_at _ _ _)) <| va (op_load 0 1 rfl rfl TI22 rfl (by decide)) <| va (op_len (m := l0_0.length) 0 lenm Tryz.underlying22 rfl rfl) <|
   va (op_ari64 rfl rfl rfl) <| va (op_quo rfl rfl (by decide) rfl) <| vs rfl <| ds <| sr <| vs rfl <| dt <| VC.block <|
   VC.loop5 (fun (i31429 : Int) (v31431 : Value) (l31432 : List ByteArray) (v31434 : Value) (l31435 : List S71) => ⟨78, [(1, iv a1), (2, iv a2), (3, .string a3), (4, pt g29907 0), (8, pt g29908 0), (9, pt g29909 0), (10, iv (IntKind.i64.wrap ((wrap64 ((l0_0.length : Int) - 2)).tdiv 2))), (11, iv i31429)], [.row v31431 1 (l31432.map enc_str), .row v31434 2 (l31435.map enc71), .row v0_0 1 (l0_0.map enc_str), .row v0_1 2 (l0_1.map enc71), .row v0_5 1 (l0_5.map enc_str), .row v0_6 1 (l0_6.map enc_str)], [(g29909, 25, [v31431, v31434]), (g29908, 25, [sn, sn]), (g29907, 27, [v0_0, v0_1, iv a0_2, iv a0_3, iv a0_4, v0_5, v0_6])], []⟩) (fun (ml5 : Nat) (i31429 : Int) (v31431 : Value) (l31432 : List ByteArray) (v31434 : Value) (l31435 : List S71) => tarryref05_First.l5 k a0_2 a1 a2 a3 l0_0 ml5 i31429 l31432 l31435 = some (r1, r2)) k 0 v0_0 l0_0 v0_1 l0_1 [0, 1, 2] [] h ⟨rfl, ⟨rfl, rfl, rfl, rfl, rfl, rfl, rfl, rfl, trivial⟩, ⟨⟨0, rfl⟩, ⟨1, rfl⟩, ⟨0, rfl⟩, ⟨1, rfl⟩, ⟨2, rfl⟩, ⟨3, rfl⟩, trivial⟩, rfl, by decide, rfl, by decide⟩ (by intros; simp [tarryref05_First.l5]) <|
   ?_
  clear h
  intro ml5 ihl5 i31429 v31431 l31432 v31434 l31435 h
  simp only [tarryref05_First.l5] at h
  refine sq <| sr <| vm rfl <| vm rfl <| VL.letter (decide (i31429 < (IntKind.i64.wrap ((wrap64 ((l0_0.length : Int) - 2)).tdiv 2)))) fun b31825 hb31825 => va (op_cmp rfl rfl (congrArg some hb31825)) <| dt <| ?_
  replace h := iC h
  rcases h with ⟨c31826, h⟩ | ⟨c31826, h⟩
  · cases lT c31826 hb31825
    refine ct <| sk <| sq <| VC.block <| sr <| vm rfl <| vm rfl <| va (op_ari64 rfl rfl rfl) <| va (op_ari64 rfl rfl rfl) <| vm rfl <| va (op_ari64 rfl rfl rfl) <| vs rfl <| nx <| va (op_fieldAddr FI25_0 rfl (add_at _ _ _)) <| va (op_load 0 1 rfl rfl TI22 rfl (by decide)) <| vm rfl <| ?_
    replace h := iN h
    obtain ⟨c32014, h⟩ := h
    replace h := bd h
    obtain ⟨x32015, hx32015, h⟩ := h
    refine VL.open (m := l31432.length) 0 lenm rfl (pos_get hx32015) <| ?_
    rintro ad32016 n32017 rfl
    refine va (op_indexAddr Tryz.underlying22 TI9 rfl rfl c32014 (lt_get c32014 hx32015) rfl) <|
     va (op_load_row (sz := 1) (o := 0) 0 (wrap64 ((wrap64 (2 + (wrap64 (a1 * (IntKind.i64.wrap ((wrap64 ((l0_0.length : Int) - 2)).tdiv 2)))))) + i31429)).toNat 1 rfl rfl (get_map hx32015) TI9 rfl (by decide)) <|
     o_strBytesB Tryz.underlying9 Tryz.underlying68 Tryz.underlying5 (by rw [hU]) rfl (ltn rfl) rfl fun g32018 n32019 z32020 => vs rfl <| nx <| vs rfl <| ds <| sr <| vs rfl <| dt <| VC.block <|
     VC.loop3 (fun (q32124 : Bool) (i32125 : Int) (l32126 : List Int) => ⟨78, [(1, iv a1), (2, iv a2), (3, .string a3), (4, pt g29907 0), (8, pt g29908 0), (9, pt g29909 0), (10, iv (IntKind.i64.wrap ((wrap64 ((l0_0.length : Int) - 2)).tdiv 2))), (11, iv i31429), (12, iv (wrap64 ((wrap64 (2 + (wrap64 (a1 * (IntKind.i64.wrap ((wrap64 ((l0_0.length : Int) - 2)).tdiv 2)))))) + i31429))), (13, .slice (some ⟨g32018, 0, none⟩) x32015.size n32019), (14, .bool q32124), (15, iv i32125), (24, iv i31429), (25, iv (IntKind.i64.wrap ((wrap64 ((l0_0.length : Int) - 2)).tdiv 2))), (26, .bool true), (29, iv a1), (30, iv (IntKind.i64.wrap ((wrap64 ((l0_0.length : Int) - 2)).tdiv 2))), (31, iv (wrap64 (a1 * (IntKind.i64.wrap ((wrap64 ((l0_0.length : Int) - 2)).tdiv 2))))), (32, iv (wrap64 (2 + (wrap64 (a1 * (IntKind.i64.wrap ((wrap64 ((l0_0.length : Int) - 2)).tdiv 2))))))), (33, iv i31429), (34, iv (wrap64 ((wrap64 (2 + (wrap64 (a1 * (IntKind.i64.wrap ((wrap64 ((l0_0.length : Int) - 2)).tdiv 2)))))) + i31429))), (35, pt g29909 0), (36, (.slice (some ad32016) l31432.length n32017)), (37, iv (wrap64 ((wrap64 (2 + (wrap64 (a1 * (IntKind.i64.wrap ((wrap64 ((l0_0.length : Int) - 2)).tdiv 2)))))) + i31429))), (39, .string x32015), (40, .slice (some ⟨g32018, 0, none⟩) x32015.size n32019)], [.row (.slice (some ad32016) l31432.length n32017) 1 (l31432.map enc_str), .row v31434 2 (l31435.map enc71), .row v0_0 1 (l0_0.map enc_str), .row v0_1 2 (l0_1.map enc71), .row v0_5 1 (l0_5.map enc_str), .row v0_6 1 (l0_6.map enc_str)], [(g32018, 5, ints .u8 (l32126 ++ z32020)), (g29909, 25, [(.slice (some ad32016) l31432.length n32017), v31434]), (g29908, 25, [sn, sn]), (g29907, 27, [v0_0, v0_1, iv a0_2, iv a0_3, iv a0_4, v0_5, v0_6])], []⟩) (fun (ml9 : Nat) (q32124 : Bool) (i32125 : Int) (l32126 : List Int) => tarryref05_First.l9 k (tarryref05_First.l5 k a0_2 a1 a2 a3 l0_0 ml5) a1 a2 a3 i31429 l0_0 l31432 l31435 x32015 ml9 q32124 i32125 l32126 = some (r1, r2)) k false 0 (byI x32015) [0, 1, 2, 3] [] h ⟨rfl, ⟨rfl, rfl, rfl, rfl, rfl, rfl, rfl, rfl, rfl, rfl, rfl, rfl, rfl, rfl, rfl, rfl, rfl, rfl, rfl, rfl, rfl, rfl, rfl, rfl, rfl, rfl, trivial⟩, ⟨⟨0, rfl⟩, ⟨1, rfl⟩, ⟨2, rfl⟩, ⟨3, rfl⟩, ⟨4, rfl⟩, ⟨5, rfl⟩, trivial⟩, rfl, by decide, rfl, by decide⟩ (by intros; simp [tarryref05_First.l9]) <|
     ?_
    clear h
    intro ml9 ihl9 q32124 i32125 l32126 h
    simp only [tarryref05_First.l9] at h
    refine sq <| sr <| vm rfl <| VL.letter (decide (i32125 < 64)) fun b32166 hb32166 => va (op_cmp rfl rfl (congrArg some hb32166)) <| dt <| ?_
    replace h := iC h
    rcases h with ⟨c32167, h⟩ | ⟨c32167, h⟩
    · cases lT c32167 hb32166
      refine ct <| sk <| sq <| VC.block <| sr <| vm rfl <| va (op_ari64 rfl rfl rfl) <| vm rfl <| va (op_ari64 rfl rfl rfl) <| vm rfl <| va (op_ari64 rfl rfl rfl) <| vs rfl <| nx <| vm rfl <|
       VL.letter (decide ((wrap64 ((wrap64 ((wrap64 (64 * i31429)) + i32125)) - a2)) ≥ 0)) fun b32183 hb32183 => va (op_cmp rfl rfl (congrArg some hb32183)) <| vm rfl <| ?_
      replace h := iC h
      rcases h with ⟨c32184, h⟩ | ⟨c32184, h⟩
      · cases lT c32184 hb32183
        refine vm rfl <| vm rfl <| va (op_lens Tryz.underlying9 rfl) <| VL.letter (decide ((wrap64 ((wrap64 ((wrap64 (64 * i31429)) + i32125)) - a2)) < (a3.size : Int))) fun b32185 hb32185 => va (op_cmp rfl rfl (congrArg some hb32185)) <| va (op_pick rfl rfl) <| dt <| ?_
        replace h := iC h
        rcases h with ⟨c32186, h⟩ | ⟨c32186, h⟩
        · cases lT c32186 hb32185
          refine ct <| sr <| vm rfl <| vm rfl <| vm rfl <| vm rfl <| ?_
          replace h := iN h
          obtain ⟨c32187, h⟩ := h
          replace h := iN h
          obtain ⟨c32188, h⟩ := h
          refine va (op_indexS Tryz.underlying9 rfl rfl c32187 c32188 rfl) <| ?_
          replace h := iN h
          obtain ⟨c32189, h⟩ := h
          replace h := iN h
          obtain ⟨c32190, h⟩ := h
          refine va (op_indexAddrB Tryz.underlying68 TI5 rfl rfl c32189 c32190) <| ?_
          replace h := iN h
          obtain ⟨c32191, h⟩ := h
          refine s1 (o_storeB 0 rfl rfl rfl TI5 c32191) <| dr <| vs rfl <| dn <| VN.block <| tr <| vm rfl <| va (op_ari64 rfl rfl rfl) <| vs rfl <| dn <| VN.again [0, 1, 2, 3] [] (ihl9 true (wrap64 (i32125 + 1)) (l32126.set i32125.toNat (bt a3 (wrap64 ((wrap64 ((wrap64 (64 * i31429)) + i32125)) - a2)))) h)
        cases lF c32186 hb32185
        refine cf <| VC.skip <| VN.block <| tr <| vm rfl <| va (op_ari64 rfl rfl rfl) <| vs rfl <| dn <| VN.again [0, 1, 2, 3] [] (ihl9 q32124 (wrap64 (i32125 + 1)) l32126 h)
      cases lF c32184 hb32183
      refine un rfl <| un rfl <| un rfl <| un rfl <| va (op_pick rfl rfl) <| dt <| cf <| VC.skip <| VN.block <| tr <| vm rfl <| va (op_ari64 rfl rfl rfl) <| vs rfl <| dn <| VN.again [0, 1, 2, 3] [] (ihl9 q32124 (wrap64 (i32125 + 1)) l32126 h)
    cases lF c32167 hb32166
    refine cf <| VC.exit <| VX.then <| VX.then <| VX.hit <| tx <| vm rfl <| dt <| ?_
    replace h := iC h
    rcases h with ⟨c32192, h⟩ | ⟨c32192, h⟩
    · obtain rfl := c32192
      refine ct <| rg <| va (op_load 1 2 rfl rfl TI25 rfl (fun h => absurd h (by decide))) <| vm rfl <| vm rfl <| ?_
      replace h := iN h
      obtain ⟨c32193, h⟩ := h
      refine va (op_bytesStrB 0 Tryz.underlying68 Tryz.underlying9 Tryz.underlying5 rfl rfl c32193) <| ?_
      replace h := bd h
      obtain ⟨⟨r32194, r32195⟩, hA32196, h⟩ := h
      dsimp only at h
      refine sC (o_call0 FO41 (tarryref05_put.ok l31432 l31435 (wrap64 ((wrap64 (2 + (wrap64 (a1 * (IntKind.i64.wrap ((wrap64 ((l0_0.length : Int) - 2)).tdiv 2)))))) + i31429)) (strOfNums l32126) (.slice (some ad32016) l31432.length n32017) v31434 r32194 r32195 hA32196) rfl rfl (ltn rfl) (All_of (.cons (mG 0 rfl) (.cons (mG 1 rfl) .nil)))) <|
       ?_
      rintro _ _ _ ⟨v32198, v32200, rfl, rfl, rfl⟩
      refine s1 (o_store 1 2 rfl rfl rfl TI25 (.agg (.f 0 rfl (.r 0 rfl .nil))) rfl (len rfl)) <| dn <| VN.block <| tr <| vm rfl <| va (op_ari64 rfl rfl rfl) <| vs rfl <| dn <| VN.freezeRow' 0 rfl <| VN.again [1, 2, 3] [] (ihl5 (wrap64 (i31429 + 1)) v32198 r32194 v32200 r32195 h)
    obtain rfl := Bool.eq_false_iff.2 c32192
    refine cf <| VC.skip <| VN.block <| tr <| vm rfl <| va (op_ari64 rfl rfl rfl) <| vs rfl <| dn <| VN.again [1, 2, 3] [] (ihl5 (wrap64 (i31429 + 1)) (.slice (some ad32016) l31432.length n32017) l31432 v31434 l31435 h)
  cases lF c31826 hb31825
  refine cf <| VC.exit <| VX.then <| VX.then <| VX.hit <| th <| ?_
  replace h := bd h
  obtain ⟨t32201, hA32202, h⟩ := h
  replace h := bd h
  obtain ⟨⟨r32203, r32204⟩, hA32205, h⟩ := h
  dsimp only at h
  refine VC.join2 (fun (v32207 : Value) (v32209 : Value) => ⟨78, [(8, pt g29908 0)], [.row v32207 1 (r32203.map enc_str)], [(g29908, 25, [v32207, v32209])], [(v32209, 72, 2, r32204.map enc71)]⟩) (fun (v32207 : Value) (v32209 : Value) => True) ?_ ?_
  · refine dw ⟨0, [], [], [(g29909, 25, [v31431, v31434]), (g29907, 27, [v0_0, v0_1, iv a0_2, iv a0_3, iv a0_4, v0_5, v0_6])], []⟩ 8 <| av 0 1 rfl (op_load 0 2 rfl rfl TI25 rfl (fun h => absurd h (by decide))) <| av 1 3 rfl (op_fieldAddr FI27_1 rfl (add_at _ _ _)) <|
     av 2 7 rfl (op_load 1 1 rfl rfl TI3 rfl (by decide)) <| av 3 15 rfl (op_ari64 rfl rfl rfl) <| av 4 31 rfl (op_rem rfl rfl (by decide) rfl) <| aC 5 63 rfl (o_call0 FO42 (tarryref05_zeros.ok 64 t32201 hA32202) rfl rfl (ltn rfl) (All_of .nil)) <| ?_
    rintro _ _ _ ⟨rfl, rfl, rfl⟩
    refine ⟨⟨trivial, ⟨⟨0, rfl⟩, ⟨2, rfl⟩, trivial⟩, trivial⟩, ?_⟩
    refine aC 6 127 rfl (o_call0 FO41 (tarryref05_put.ok l31432 l31435 ((wrap64 (a0_2 + 1)).tmod 2) t32201 v31431 v31434 r32203 r32204 hA32205) rfl rfl (ltn rfl) (All_of (.cons (mG 0 rfl) (.cons (mG 1 rfl) .nil)))) <| ?_
    rintro _ _ _ ⟨v32207, v32209, rfl, rfl, rfl⟩
    refine ⟨⟨trivial, ⟨⟨0, rfl⟩, ⟨2, rfl⟩, trivial⟩, trivial⟩, ?_⟩
    exact aO 7 255 rfl (o_store 1 2 rfl rfl rfl TI25 (.agg (.f 0 rfl (.r 0 rfl .nil))) rfl (len rfl)) <| ad <| VN.meet2 v32207 v32209 [1] [0] trivial
  intro v32207 v32209 _
  refine VC.ret <| ?_
  simp only [Option.some.injEq, Prod.mk.injEq] at h
  obtain ⟨rfl, rfl⟩ := h
  exact rf [.cell 8 25] [0] (.cell 0 rfl rfl TI25 (fun h => absurd h (by decide)) .nil) ⟨v32207, v32209, rfl, rfl, rfl⟩

theorem tarryref03_Kept.ok (k : Nat) (a0 : Int) (a1 : Int)  (r1 : Bool) (h : tarryref03_Kept.f k a0 a1 = some r1) :
    VCalls Tryz.prog 44 [.int .u64 a0, iv a1] [] (fun v G own => v = .bool r1 ∧ G = [] ∧ own = []) := by
  refine VCalls.intro Tryz.func44 rfl (len rfl) fun E hC hW hD hU => ?_
  unfold tarryref03_Kept.f at h
  refine sr <| vs rfl <| ds <| sr <| vs rfl <| dt <| VC.block <|
   VC.loop2 (fun (i32250 : Int) (i32251 : Int) => ⟨16, [(0, .int .u64 i32250), (1, iv a1), (4, .bool false), (5, iv i32251)], [], [], []⟩) (fun (ml1 : Nat) (i32250 : Int) (i32251 : Int) => tarryref03_Kept.l1 k a1 ml1 i32250 i32251 = some r1) k a0 0 [] [] h ⟨rfl, ⟨rfl, rfl, rfl, rfl, trivial⟩, trivial, rfl, by decide, rfl, by decide⟩ (by intros; simp [tarryref03_Kept.l1]) <|
   ?_
  clear h
  intro ml1 ihl1 i32250 i32251 h
  simp only [tarryref03_Kept.l1] at h
  refine sq <| sr <| vm rfl <| vm rfl <| VL.letter (decide (i32251 < a1)) fun b32259 hb32259 => va (op_cmp rfl rfl (congrArg some hb32259)) <| dt <| ?_
  replace h := iC h
  rcases h with ⟨c32260, h⟩ | ⟨c32260, h⟩
  · cases lT c32260 hb32259
    refine ct <| sk <| sq <| VC.block <| rg <| vm rfl <| va (op_quo rfl rfl (by decide) rfl) <| vs rfl <| dn <| VN.block <| tr <| vm rfl <| va (op_ari64 rfl rfl rfl) <| vs rfl <| dn <| VN.again [] [] (ihl1 (IntKind.u64.wrap (i32250.tdiv 2)) (wrap64 (i32251 + 1)) h)
  cases lF c32260 hb32259
  refine cf <| VC.exit <| VX.then <| VX.then <| VX.hit <| tx <| vm rfl <| va (op_rem rfl rfl (by decide) rfl) <| VL.letter (((i32250.tmod 2) == 1)) fun b32261 hb32261 => va (op_cmp rfl rfl (congrArg some hb32261)) <| vs rfl <| dt <| VC.ret <| ?_
  obtain rfl := Option.some.inj h
  subst hb32261
  exact rq 4 rfl ⟨rfl, rfl, rfl⟩

theorem tarryref03_Set.ok (l0 : List ByteArray) (a1 : Int) (a2 : ByteArray) (v0 : Value) (r1 : List ByteArray) (h : tarryref03_Set.f l0 a1 a2 = some r1) :
    VCalls Tryz.prog 45 [v0, iv a1, .string a2] [.row v0 1 (l0.map enc_str)] (fun v G own => ∃ w0 : Value, v = w0 ∧ G = [] ∧ own = [(w0, 9, 1, r1.map enc_str)]) := by
  refine VCalls.intro Tryz.func45 rfl (len rfl) fun E hC hW hD hU => ?_
  unfold tarryref03_Set.f at h
  refine sr <| vs rfl <| nx <| sG (o_buildSlice (vals := []) (cells := #[]) (es := List.map enc_str ([] : List ByteArray)) Tryz.underlying22 TI9 Z9 rfl (by decide) (by decide) (by kernel_rfl) (by kernel_rfl) rfl (flat_map enc_str_ok _)) fun v32267 => vs rfl <| nx <| vm rfl <| vm rfl <| vm rfl <| ?_
  replace h := iN h
  obtain ⟨c32268, h⟩ := h
  replace h := iN h
  obtain ⟨c32269, h⟩ := h
  refine sG (o_slice (m := l0.length) 0 0 a1.toNat lenm cutm Tryz.underlying22 TI9 rfl rfl ⟨rfl, ⟨_, _, rfl, c32268, rfl⟩, Nat.zero_le _, tN (a := a1) (b := (l0.length : Int)) rfl rfl c32269⟩) fun v32271 => ?_
  replace h := iN h
  obtain ⟨c32272, h⟩ := h
  refine sG (o_append 0 appm Tryz.underlying22 EI9 rfl rfl rfl (.inl ⟨0, rfl⟩) (bndm c32272)) fun v32273 => vs rfl <| nx <| vm rfl <| vm rfl <|
   sG (o_buildSlice (vals := [(0, .string a2)]) (cells := #[.string a2]) (es := List.map enc_str ([a2] : List ByteArray)) Tryz.underlying22 TI9 Z9 rfl (by decide) (by decide) (by kernel_rfl) (by kernel_rfl) rfl (flat_map enc_str_ok _)) fun v32276 => ?_
  replace h := iN h
  obtain ⟨c32277, h⟩ := h
  refine sG (o_append 1 appm Tryz.underlying22 EI9 rfl rfl rfl (.inr ⟨0, _, rfl⟩) (bndm c32277)) fun v32278 => vs rfl <| nx <| vm rfl <| vm rfl <| vm rfl <| va (op_ari64 rfl rfl rfl) <| ?_
  replace h := iN h
  obtain ⟨c32280, h⟩ := h
  replace h := iN h
  obtain ⟨c32281, h⟩ := h
  refine sG (o_slice (m := l0.length) 1 ((wrap64 (a1 + 1)).toNat) l0.length lenm cutm Tryz.underlying22 TI9 rfl rfl ⟨⟨_, _, rfl, c32280, rfl⟩, rfl, tN (a := (wrap64 (a1 + 1))) (b := (l0.length : Int)) rfl rfl c32281, Nat.le_refl _⟩) fun v32283 => ?_
  replace h := iN h
  obtain ⟨c32284, h⟩ := h
  refine sG (o_append 1 appm Tryz.underlying22 EI9 rfl rfl rfl (.inl ⟨0, rfl⟩) (bndm c32284)) fun v32285 => vs rfl <| nx <| vm rfl <| vs rfl <| dt <| VC.ret <| ?_
  obtain rfl := Option.some.inj h
  exact rf [.tmp 6] [1] (.tmp rfl .nil) ⟨v32285, rfl, rfl, rfl⟩

theorem tarryref03_Crash.ok (k : Nat) (l0_0 : List ByteArray) (l0_1 : List S71) (a1 : Int) (a2 : Int) (v0_0 : Value) (v0_1 : Value) (r1 : List ByteArray) (r2 : List S71) (h : tarryref03_Crash.f k l0_0 l0_1 a1 a2 = some (r1, r2)) :
    VCalls Tryz.prog 21 [.agg #[v0_0, v0_1], .int .u64 a1, iv a2] [.row v0_0 1 (l0_0.map enc_str), .row v0_1 2 (l0_1.map enc71)] (fun v G own => ∃ w0 w1 : Value, v = .agg #[w0, w1] ∧ G = [.row w0 1 (r1.map enc_str)] ∧ own = [(w1, 72, 2, r2.map enc71)]) := by
  refine VCalls.intro Tryz.func21 rfl (len rfl) fun E hC hW hD hU => ?_
  unfold tarryref03_Crash.f at h
  refine sr <| sG (o_box rfl (.agg (.f 0 rfl (.f 1 rfl .nil)))) fun g32477 => sG (o_alloc Z25 ZL25) fun g32478 => nx <| va (op_fieldAddr FI25_0 rfl (add_at _ _ _)) <| va (op_load 1 1 rfl rfl TI22 rfl (by decide)) <| vs rfl <| nx <| vs rfl <| dt <|
   VC.join3 (fun (v32850 : Value) (l32851 : List ByteArray) (i32852 : Int) => ⟨66, [(2, iv a2), (3, pt g32477 0), (6, pt g32478 0), (7, v32850), (8, iv i32852)], [.row v32850 1 (l32851.map enc_str), .row v0_0 1 (l0_0.map enc_str), .row v0_1 2 (l0_1.map enc71)], [(g32478, 25, [sn, sn]), (g32477, 25, [v0_0, v0_1])], []⟩) (fun (v32850 : Value) (l32851 : List ByteArray) (i32852 : Int) => tarryref03_Crash.j2 k a2 l0_1 l32851 i32852 = some (r1, r2)) ?_ ?_
  · refine sr <| va (op_fieldAddr FI25_1 rfl (add_at _ _ _)) <| va (op_load 1 1 rfl rfl TI23 rfl (by decide)) <| va (op_len (m := l0_1.length) 1 lenm Tryz.underlying23 rfl rfl) <| vm rfl <| dt <| VC.block <|
     VC.loop4 (fun (v32791 : Value) (l32792 : List ByteArray) (i32793 : Int) (i32794 : Int) => ⟨66, [(1, .int .u64 a1), (2, iv a2), (3, pt g32477 0), (6, pt g32478 0), (7, v32791), (8, iv i32793), (15, v0_1), (16, iv (l0_1.length : Int)), (17, iv i32794)], [.row v32791 1 (l32792.map enc_str), .row v0_1 2 (l0_1.map enc71), .row v0_0 1 (l0_0.map enc_str)], [(g32478, 25, [sn, sn]), (g32477, 25, [v0_0, v0_1])], []⟩) (fun (ml3 : Nat) (v32791 : Value) (l32792 : List ByteArray) (i32793 : Int) (i32794 : Int) => tarryref03_Crash.l3 k a1 a2 l0_1 ml3 l32792 i32793 i32794 = some (r1, r2)) k v0_0 l0_0 (-1) 0 [0, 1] [] h ⟨rfl, ⟨rfl, rfl, rfl, rfl, rfl, rfl, rfl, rfl, rfl, trivial⟩, ⟨⟨0, rfl⟩, ⟨1, rfl⟩, ⟨0, rfl⟩, trivial⟩, rfl, by decide, rfl, by decide⟩ (by intros; simp [tarryref03_Crash.l3]) <|
     ?_
    clear h
    intro ml3 ihl3 v32791 l32792 i32793 i32794 h
    simp only [tarryref03_Crash.l3] at h
    refine sr <| VL.letter (decide (i32794 < (l0_1.length : Int))) fun b32822 hb32822 => va (op_cmp rfl rfl (congrArg some hb32822)) <| ds <| ?_
    replace h := iC h
    rcases h with ⟨c32824, h⟩ | ⟨c32824, h⟩
    · cases lT c32824 hb32822
      refine ct <| sk <| sq <| VC.block <| sr <| vm rfl <| ?_
      replace h := iN h
      obtain ⟨c32837, h⟩ := h
      replace h := bd h
      obtain ⟨x32838, hx32838, h⟩ := h
      refine VL.open (m := l0_1.length) 1 lenm rfl (pos_get hx32838) <| ?_
      rintro ad32839 n32840 rfl
      refine va (op_indexAddr Tryz.underlying23 TI72 rfl rfl c32837 (lt_get c32837 hx32838) rfl) <| va (op_load_row (sz := 2) (o := 0) 1 i32794.toNat 2 rfl rfl (get_map hx32838) TI72 rfl (fun h => absurd h (by decide))) <| sG (o_alloc Z72 ZL72) fun g32841 => vs rfl <|
       s1 (o_store 0 2 rfl rfl rfl TI72 (.agg (.of rfl)) rfl (len rfl)) <| nx <| vm rfl <| vm rfl <| ?_
      replace h := bd h
      obtain ⟨t32842, hA32843, h⟩ := h
      refine sC (o_call0 FO44 (tarryref03_Kept.ok k a1 i32794 t32842 hA32843) rfl rfl (ltn rfl) (All_of .nil)) <| ?_
      rintro _ _ _ ⟨rfl, rfl, rfl⟩
      refine dt <| ?_
      replace h := iC h
      rcases h with ⟨c32844, h⟩ | ⟨c32844, h⟩
      · obtain rfl := c32844
        refine ct <| rg <| vm rfl <| va (op_fieldAddr FI72_0 rfl (add_at _ _ _)) <| va (op_load 0 1 rfl rfl TI3 rfl (by decide)) <| va (op_fieldAddr FI72_1 rfl (add_at _ _ _)) <| va (op_load 0 1 rfl rfl TI9 rfl (by decide)) <| ?_
        replace h := bd h
        obtain ⟨r32845, hA32846, h⟩ := h
        refine sC (o_call0 FO45 (tarryref03_Set.ok l32792 x32838.f0 x32838.f1 v32791 r32845 hA32846) rfl rfl (ltn rfl) (All_of (.cons (mG 0 rfl) .nil))) <| ?_
        rintro v32848 _ _ ⟨_, rfl, rfl, rfl⟩
        refine vs rfl <| dn <| VN.block <| tr <| va (op_ari64 rfl rfl rfl) <| vm rfl <| dn <| VN.freezeRow' 0 rfl <| VN.again [1, 2] [] (ihl3 v32848 r32845 i32793 (wrap64 (i32794 + 1)) h)
      obtain rfl := Bool.eq_false_iff.2 c32844
      refine cf <| rg <| vm rfl <| vs rfl <| dn <| VN.block <| tr <| va (op_ari64 rfl rfl rfl) <| vm rfl <| dn <| VN.again [1, 2] [] (ihl3 v32791 l32792 i32794 (wrap64 (i32794 + 1)) h)
    cases lF c32824 hb32822
    refine cf <| VC.exit <| VX.then <| VX.then <| VX.hit <| VN.meet3 v32791 l32792 i32793 [0, 1] [] h
  clear h
  intro v32850 l32851 i32852 h
  unfold tarryref03_Crash.j2 at h
  refine sq <| sr <| vm rfl <| VL.letter (decide (i32852 ≥ 0)) fun b32886 hb32886 => va (op_cmp rfl rfl (congrArg some hb32886)) <| vm rfl <| ?_
  replace h := iC h
  rcases h with ⟨c32887, h⟩ | ⟨c32887, h⟩
  · cases lT c32887 hb32886
    refine vm rfl <| VL.letter (decide (a2 > 0)) fun b32888 hb32888 => va (op_cmp rfl rfl (congrArg some hb32888)) <| va (op_pick rfl rfl) <| vm rfl <| ?_
    replace h := iC h
    rcases h with ⟨c32889, h⟩ | ⟨c32889, h⟩
    · cases lT c32889 hb32888
      refine vm rfl <| VL.letter (decide (a2 < 64)) fun b32890 hb32890 => va (op_cmp rfl rfl (congrArg some hb32890)) <| va (op_pick rfl rfl) <| dt <| ?_
      replace h := iC h
      rcases h with ⟨c32891, h⟩ | ⟨c32891, h⟩
      · cases lT c32891 hb32890
        refine ct <| sr <| va (op_fieldAddr FI25_1 rfl (add_at _ _ _)) <| va (op_load 1 1 rfl rfl TI23 rfl (by decide)) <| vm rfl <| ?_
        replace h := iN h
        obtain ⟨c32892, h⟩ := h
        replace h := bd h
        obtain ⟨x32893, hx32893, h⟩ := h
        refine VL.open (m := l0_1.length) 2 lenm rfl (pos_get hx32893) <| ?_
        rintro ad32894 n32895 rfl
        refine va (op_indexAddr Tryz.underlying23 TI72 rfl rfl c32892 (lt_get c32892 hx32893) rfl) <| va (op_load_row (sz := 2) (o := 0) 2 i32852.toNat 2 rfl rfl (get_map hx32893) TI72 rfl (fun h => absurd h (by decide))) <|
         sG (o_alloc Z72 ZL72) fun g32896 => s1 (o_store 0 2 rfl rfl rfl TI72 (.agg (.of rfl)) rfl (len rfl)) <| dt <| ?_
        replace h := iN h
        obtain ⟨c32897, h⟩ := h
        replace h := iN h
        obtain ⟨c32898, h⟩ := h
        replace h := iN h
        obtain ⟨c32899, h⟩ := h
        replace h := bd h
        obtain ⟨x32900, hx32900, h⟩ := h
        replace h := iN h
        obtain ⟨c32901, h⟩ := h
        replace h := iN h
        obtain ⟨c32902, h⟩ := h
        replace h := bd h
        obtain ⟨r32903, hA32904, h⟩ := h
        refine VC.open (m := l32851.length) 0 lenm rfl (pos_get hx32900) <| ?_
        rintro ad32873 n32874 rfl
        refine VC.stop1 (fun (v32906 : Value) => ⟨66, [(6, pt g32478 0), (7, v32906)], [], [(g32478, 25, [sn, sn])], [(v32906, 9, 1, r32903.map enc_str)]⟩) (fun (v32906 : Value) => True) ?_ ?_
        · refine dw ⟨0, [], [.row (.slice (some ad32873) l32851.length n32874) 1 (l32851.map enc_str)], [(g32896, 72, [iv x32893.f0, .string x32893.f1])], []⟩ 17 <| av 0 1 rfl (mv rfl) <| av 1 3 rfl (op_fieldAddr FI72_0 rfl (add_at _ _ _)) <| av 2 7 rfl (op_load 0 1 rfl rfl TI3 rfl (by decide)) <|
           av 3 15 rfl (op_fieldAddr FI72_1 rfl (add_at _ _ _)) <| av 4 31 rfl (op_load 0 1 rfl rfl TI9 rfl (by decide)) <| av 5 63 rfl (mv rfl) <|
           av 6 127 rfl (op_sliceS 0 a2.toNat Tryz.underlying9 rfl ⟨rfl, ⟨_, _, rfl, c32897, rfl⟩, Nat.zero_le _, tN (a := a2) (b := (x32893.f1.size : Int)) rfl rfl c32898⟩ rfl) <| av 7 255 rfl (mv rfl) <| av 8 511 rfl (op_fieldAddr FI72_0 rfl (add_at _ _ _)) <|
           av 9 1023 rfl (op_load 0 1 rfl rfl TI3 rfl (by decide)) <| av 10 2047 rfl (op_indexAddr Tryz.underlying22 TI9 rfl rfl c32899 (lt_get c32899 hx32900) rfl) <| av 11 4095 rfl (op_load_row (sz := 1) (o := 0) 0 x32893.f0.toNat 1 rfl rfl (get_map hx32900) TI9 rfl (by decide)) <|
           av 12 8191 rfl (mv rfl) <| av 13 16383 rfl (op_sliceS a2.toNat x32900.size Tryz.underlying9 rfl ⟨⟨_, _, rfl, c32897, rfl⟩, rfl, tN (a := a2) (b := (x32900.size : Int)) rfl rfl c32901, Nat.le_refl _⟩ rfl) <| av 14 32767 rfl (op_adds rfl rfl rfl c32902) <|
           aC 15 65535 rfl (o_call0 FO45 (tarryref03_Set.ok l32851 x32893.f0 ((x32893.f1.extract 0 a2.toNat) ++ (x32900.extract a2.toNat x32900.size)) (.slice (some ad32873) l32851.length n32874) r32903 hA32904) rfl rfl (ltn rfl) (All_of (.cons (mG 0 rfl) .nil))) <| ?_
          rintro v32906 _ _ ⟨_, rfl, rfl, rfl⟩
          refine ⟨⟨⟨⟨0, rfl⟩, trivial⟩, ⟨⟨0, rfl⟩, trivial⟩, trivial⟩, ?_⟩
          exact VA.more ⟨0, [], [.row (.slice (some ad32873) l32851.length n32874) 1 (l32851.map enc_str)], [(g32896, 72, [iv x32893.f0, .string x32893.f1])], [(v32906, 9, 1, r32903.map enc_str)]⟩ ⟨⟨⟨0, rfl⟩, trivial⟩, ⟨⟨0, rfl⟩, trivial⟩, trivial⟩ <| av 16 131071 rfl (ag rfl) <| ad <|
           VN.meet1 v32906 [1] [0] trivial
        intro v32906 _
        refine tx <| vm rfl <| va (op_build (vals := [(0, v32906)]) (vcs := [(0, [v32906])]) (cells := [v32906, sn]) SI25 rfl (.cons ⟨rfl, (.r 0 rfl)⟩ .nil) (by kernel_rfl)) <| s1 (o_store 0 2 rfl rfl rfl TI25 (.agg (.r 0 rfl (.c rfl .nil))) rfl (len rfl)) <| dt <| VC.ret <| ?_
        simp only [Option.some.injEq, Prod.mk.injEq] at h
        obtain ⟨rfl, rfl⟩ := h
        exact VR.freezeRow' 0 rfl <| VR.nilRow' 72 2 <| rf [.cell 6 25] [0] (.cell 0 rfl rfl TI25 (fun h => absurd h (by decide)) .nil) ⟨v32906, sn, rfl, rfl, rfl⟩
      cases lF c32891 hb32890
      refine cf <| sk <| sr <| vm rfl <| va (op_build (vals := [(0, v32850)]) (vcs := [(0, [v32850])]) (cells := [v32850, sn]) SI25 rfl (.cons ⟨rfl, (.f 0 rfl)⟩ .nil) (by kernel_rfl)) <| s1 (o_store 0 2 rfl rfl rfl TI25 (.agg (.f 0 rfl (.c rfl .nil))) rfl (len rfl)) <| dt <| VC.ret <| ?_
      simp only [Option.some.injEq, Prod.mk.injEq] at h
      obtain ⟨rfl, rfl⟩ := h
      exact VR.nilRow' 72 2 <| rf [.cell 6 25] [0] (.cell 0 rfl rfl TI25 (fun h => absurd h (by decide)) .nil) ⟨v32850, sn, rfl, rfl, rfl⟩
    cases lF c32889 hb32888
    refine un rfl <| un rfl <| va (op_pick rfl rfl) <| dt <| cf <| sk <| sr <| vm rfl <| va (op_build (vals := [(0, v32850)]) (vcs := [(0, [v32850])]) (cells := [v32850, sn]) SI25 rfl (.cons ⟨rfl, (.f 0 rfl)⟩ .nil) (by kernel_rfl)) <|
     s1 (o_store 0 2 rfl rfl rfl TI25 (.agg (.f 0 rfl (.c rfl .nil))) rfl (len rfl)) <| dt <| VC.ret <| ?_
    simp only [Option.some.injEq, Prod.mk.injEq] at h
    obtain ⟨rfl, rfl⟩ := h
    exact VR.nilRow' 72 2 <| rf [.cell 6 25] [0] (.cell 0 rfl rfl TI25 (fun h => absurd h (by decide)) .nil) ⟨v32850, sn, rfl, rfl, rfl⟩
  cases lF c32887 hb32886
  refine un rfl <| un rfl <| va (op_pick rfl rfl) <| vm rfl <| un rfl <| un rfl <| va (op_pick rfl rfl) <| dt <| cf <| sk <| sr <| vm rfl <| va (op_build (vals := [(0, v32850)]) (vcs := [(0, [v32850])]) (cells := [v32850, sn]) SI25 rfl (.cons ⟨rfl, (.f 0 rfl)⟩ .nil) (by kernel_rfl)) <|
   s1 (o_store 0 2 rfl rfl rfl TI25 (.agg (.f 0 rfl (.c rfl .nil))) rfl (len rfl)) <| dt <| VC.ret <| ?_
  simp only [Option.some.injEq, Prod.mk.injEq] at h
  obtain ⟨rfl, rfl⟩ := h
  exact VR.nilRow' 72 2 <| rf [.cell 6 25] [0] (.cell 0 rfl rfl TI25 (fun h => absurd h (by decide)) .nil) ⟨v32850, sn, rfl, rfl, rfl⟩

theorem tarryref05_flush.ok (k : Nat) (l0_0 : List ByteArray) (l0_1 : List S71) (v0_0 : Value) (v0_1 : Value) (r1 : List ByteArray) (r2 : List S71) (h : tarryref05_flush.f k l0_0 l0_1 = some (r1, r2)) :
    VCalls Tryz.prog 34 [.agg #[v0_0, v0_1]] [.row v0_0 1 (l0_0.map enc_str), .row v0_1 2 (l0_1.map enc71)] (fun v G own => ∃ w0 w1 : Value, v = .agg #[w0, w1] ∧ G = [.row w0 1 (r1.map enc_str)] ∧ own = [(w1, 72, 2, r2.map enc71)]) := by
  refine VCalls.intro Tryz.func34 rfl (len rfl) fun E hC hW hD hU => ?_
  unfold tarryref05_flush.f at h
  refine sr <| sG (o_box rfl (.agg (.f 0 rfl (.f 1 rfl .nil)))) fun g32920 => sG (o_alloc Z25 ZL25) fun g32921 => nx <| va (op_load 1 2 rfl rfl TI25 rfl (fun h => absurd h (by decide))) <| ?_
  replace h := bd h
  obtain ⟨⟨r32922, r32923⟩, hA32924, h⟩ := h
  dsimp only at h
  refine sC (o_call0 FO21 (tarryref03_Crash.ok k l0_0 l0_1 18446744073709551615 0 v0_0 v0_1 r32922 r32923 hA32924) rfl rfl (ltn rfl) (All_of (.cons (mG 0 rfl) (.cons (mG 1 rfl) .nil)))) <| ?_
  rintro _ _ _ ⟨v32926, v32928, rfl, rfl, rfl⟩
  refine s1 (o_store 0 2 rfl rfl rfl TI25 (.agg (.f 0 rfl (.r 0 rfl .nil))) rfl (len rfl)) <| dt <| VC.ret <| ?_
  simp only [Option.some.injEq, Prod.mk.injEq] at h
  obtain ⟨rfl, rfl⟩ := h
  exact rf [.cell 2 25] [0] (.cell 0 rfl rfl TI25 (fun h => absurd h (by decide)) .nil) ⟨v32926, v32928, rfl, rfl, rfl⟩

end Go.Proofs.YtipeglbeongfmaaGreat.PJournalSeals
