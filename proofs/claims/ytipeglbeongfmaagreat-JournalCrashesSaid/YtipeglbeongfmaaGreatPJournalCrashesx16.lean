/- Written by a program of this repo: what the program's functions do, each as a Lean function, shown of the loaded code; or a statement's row over that; no condition of its own. -/
import Derived.Test.YtipeglbeongfmaaGreatPJournalCrashesx15
namespace Go.Proofs.YtipeglbeongfmaaGreat.PJournalCrashes
open Go Go.RowKit Go.Proofs.YtipeglbeongfmaaGreatV
set_option linter.unusedVariables false
set_option linter.unusedSimpArgs false
set_option maxHeartbeats 4000000
set_option maxRecDepth 100000

theorem tarryref05_Waits.ok (k : Nat) (l0_0 : List ByteArray) (l0_1 : List S71) (a0_2 : Int) (a0_3 : Int) (a0_4 : Int) (l0_5 : List ByteArray) (l0_6 : List ByteArray) (l1 : List ByteArray) (v0_0 : Value) (v0_1 : Value) (v0_5 : Value) (v0_6 : Value) (v1 : Value) (r1 : Int) (h : tarryref05_Waits.f k l0_0 l0_1 a0_2 a0_3 a0_4 l0_5 l0_6 l1 = some r1) :
    VCalls Tryz.prog 12 [.agg #[v0_0, v0_1, iv a0_2, iv a0_3, iv a0_4, v0_5, v0_6], v1] [.row v0_0 1 (l0_0.map enc_str), .row v0_1 2 (l0_1.map enc71), .row v0_5 1 (l0_5.map enc_str), .row v0_6 1 (l0_6.map enc_str), .row v1 1 (l1.map enc_str)] (fun v G own => v = iv r1 ∧ G = [] ∧ own = []) := by
  refine VCalls.intro Tryz.func12 rfl (len rfl) fun E hC hW hD hU => ?_
  unfold tarryref05_Waits.f at h
  refine sr <| sG (o_box rfl (.agg (.f 0 rfl (.f 1 rfl (.c rfl (.c rfl (.c rfl (.f 2 rfl (.f 3 rfl .nil))))))))) fun g27194 => vs rfl <| ds <| sr <| vm rfl <| va (op_len (m := l1.length) 4 lenm Tryz.underlying22 rfl rfl) <| vm rfl <| dt <| VC.block <|
   VC.loop1 (fun (i27252 : Int) => ⟨40, [(1, v1), (2, pt g27194 0), (4, iv 0), (8, v1), (9, iv (l1.length : Int)), (10, iv i27252)], [.row v1 1 (l1.map enc_str), .row v0_0 1 (l0_0.map enc_str), .row v0_1 2 (l0_1.map enc71), .row v0_5 1 (l0_5.map enc_str), .row v0_6 1 (l0_6.map enc_str)], [(g27194, 27, [v0_0, v0_1, iv a0_2, iv a0_3, iv a0_4, v0_5, v0_6])], []⟩) (fun (ml1 : Nat) (i27252 : Int) => tarryref05_Waits.l1 k a0_4 l0_0 l1 ml1 i27252 = some r1) k 0 [0] [] h ⟨rfl, ⟨rfl, rfl, rfl, rfl, rfl, rfl, trivial⟩, ⟨⟨4, rfl⟩, ⟨0, rfl⟩, ⟨1, rfl⟩, ⟨2, rfl⟩, ⟨3, rfl⟩, trivial⟩, rfl, by decide, rfl, by decide⟩ (by intros; simp [tarryref05_Waits.l1]) <|
   ?_
  clear h
  intro ml1 ihl1 i27252 h
  simp only [tarryref05_Waits.l1] at h
  refine sr <| VL.letter (decide (i27252 < (l1.length : Int))) fun b27268 hb27268 => va (op_cmp rfl rfl (congrArg some hb27268)) <| ds <| ?_
  replace h := iC h
  rcases h with ⟨c27288, h⟩ | ⟨c27288, h⟩
  · cases lT c27288 hb27268
    refine ct <| sk <| sq <| VC.block <| sr <| ?_
    replace h := iN h
    obtain ⟨c27295, h⟩ := h
    replace h := bd h
    obtain ⟨x27296, hx27296, h⟩ := h
    refine VL.open (m := l1.length) 0 lenm rfl (pos_get hx27296) <| ?_
    rintro ad27297 n27298 rfl
    refine va (op_indexAddr Tryz.underlying22 TI9 rfl rfl c27295 (lt_get c27295 hx27296) rfl) <| va (op_load_row (sz := 1) (o := 0) 0 i27252.toNat 1 rfl rfl (get_map hx27296) TI9 rfl (by decide)) <| vs rfl <| nx <| vm rfl <| va (op_lens Tryz.underlying9 rfl) <|
     VL.letter (decide ((x27296.size : Int) > 1000)) fun b27299 hb27299 => va (op_cmp rfl rfl (congrArg some hb27299)) <| dt <| ?_
    replace h := iC h
    rcases h with ⟨c27300, h⟩ | ⟨c27300, h⟩
    · cases lT c27300 hb27299
      refine ct <| sr <| vs rfl <| dt <| VC.ret <| VR.block <| VR.then <| VR.then <| VR.block <| VR.then <| ?_
      obtain rfl := Option.some.inj h
      exact rq 4 rfl ⟨rfl, rfl, rfl⟩
    cases lF c27300 hb27299
    refine cf <| VC.skip <| VN.block <| tr <| va (op_ari64 rfl rfl rfl) <| vm rfl <| dn <| VN.again [0] [] (ihl1 (wrap64 (i27252 + 1)) h)
  cases lF c27288 hb27268
  refine cf <| VC.exit <| VX.then <| VX.then <| VX.hit <| tx <| vm rfl <| ?_
  replace h := bd h
  obtain ⟨t27301, hA27302, h⟩ := h
  refine sC (o_call0 FO14 (tarryref04_Whole.ok k l1 v1 t27301 hA27302) rfl rfl (ltn rfl) (All_of (.cons (mG 0 rfl) .nil))) <| ?_
  rintro _ _ _ ⟨rfl, rfl, rfl⟩
  refine va (op_lens Tryz.underlying9 rfl) <| vs rfl <| ds <| VC.letter (decide ((l1.length : Int) > 16)) fun b27311 hb27311 => ?_
  replace h := iC h
  rcases h with ⟨c27312, h⟩ | ⟨c27312, h⟩
  · cases lT c27312 hb27311
    refine VC.join0 (⟨40, [(4, iv 0), (39, .bool true)], [], [], []⟩) (True) ?_ ?_
    · exact dw ⟨0, [], [.row v1 1 (l1.map enc_str)], [], []⟩ 19 <| av 0 1 rfl (mv rfl) <| av 1 3 rfl (op_len (m := l1.length) 0 lenm Tryz.underlying22 rfl rfl) <| av 2 7 rfl (op_cmp rfl rfl (congrArg some hb27311)) <| av 3 15 rfl (mv rfl) <| au 4 31 rfl rfl <| au 5 63 rfl rfl <|
       av 6 127 rfl (op_pick rfl rfl) <| av 7 255 rfl (mv rfl) <| au 8 511 rfl rfl <| au 9 1023 rfl rfl <| au 10 2047 rfl rfl <| au 11 4095 rfl rfl <| au 12 8191 rfl rfl <| au 13 16383 rfl rfl <| au 14 32767 rfl rfl <| au 15 65535 rfl rfl <| au 16 131071 rfl rfl <| au 17 262143 rfl rfl <|
       av 18 524287 rfl (op_pick rfl rfl) <| ad <| VN.meet0 [] [] trivial
    intro _
    refine ct <| sr <| vs rfl <| dt <| VC.ret <| VR.then <| ?_
    obtain rfl := Option.some.inj h
    exact rq 4 rfl ⟨rfl, rfl, rfl⟩
  cases lF c27312 hb27311
  refine VC.letter (decide ((t27301.size : Int) > 3000)) fun b27313 hb27313 => ?_
  replace h := iC h
  rcases h with ⟨c27314, h⟩ | ⟨c27314, h⟩
  · cases lT c27314 hb27313
    refine VC.join0 (⟨40, [(4, iv 0), (39, .bool true)], [], [], []⟩) (True) ?_ ?_
    · exact dw ⟨0, [], [.row v1 1 (l1.map enc_str)], [], []⟩ 19 <| av 0 1 rfl (mv rfl) <| av 1 3 rfl (op_len (m := l1.length) 0 lenm Tryz.underlying22 rfl rfl) <| av 2 7 rfl (op_cmp rfl rfl (congrArg some hb27311)) <| av 3 15 rfl (mv rfl) <| av 4 31 rfl (mv rfl) <|
       av 5 63 rfl (op_cmp rfl rfl (congrArg some hb27313)) <| av 6 127 rfl (op_pick rfl rfl) <| av 7 255 rfl (mv rfl) <| au 8 511 rfl rfl <| au 9 1023 rfl rfl <| au 10 2047 rfl rfl <| au 11 4095 rfl rfl <| au 12 8191 rfl rfl <| au 13 16383 rfl rfl <| au 14 32767 rfl rfl <| au 15 65535 rfl rfl <|
       au 16 131071 rfl rfl <| au 17 262143 rfl rfl <| av 18 524287 rfl (op_pick rfl rfl) <| ad <| VN.meet0 [] [] trivial
    intro _
    refine ct <| sr <| vs rfl <| dt <| VC.ret <| VR.then <| ?_
    obtain rfl := Option.some.inj h
    exact rq 4 rfl ⟨rfl, rfl, rfl⟩
  cases lF c27314 hb27313
  replace h := bd h
  obtain ⟨t27315, hA27316, h⟩ := h
  refine VC.letter (decide ((wrap64 (a0_4 + (t27301.size : Int))) > t27315)) fun b27317 hb27317 => VC.join0 (⟨40, [(4, iv 0), (39, .bool b27317)], [], [], []⟩) (True) ?_ ?_
  · refine dw ⟨0, [], [.row v1 1 (l1.map enc_str), .row v0_0 1 (l0_0.map enc_str)], [(g27194, 27, [v0_0, v0_1, iv a0_2, iv a0_3, iv a0_4, v0_5, v0_6])], []⟩ 19 <| av 0 1 rfl (mv rfl) <| av 1 3 rfl (op_len (m := l1.length) 0 lenm Tryz.underlying22 rfl rfl) <|
     av 2 7 rfl (op_cmp rfl rfl (congrArg some hb27311)) <| av 3 15 rfl (mv rfl) <| av 4 31 rfl (mv rfl) <| av 5 63 rfl (op_cmp rfl rfl (congrArg some hb27313)) <| av 6 127 rfl (op_pick rfl rfl) <| av 7 255 rfl (mv rfl) <| av 8 511 rfl (op_fieldAddr FI27_3 rfl (add_at _ _ _)) <|
     av 9 1023 rfl (op_load 0 1 rfl rfl TI3 rfl (by decide)) <| av 10 2047 rfl (mv rfl) <| av 11 4095 rfl (op_ari64 rfl rfl rfl) <| av 12 8191 rfl (op_fieldAddr FI27_0 rfl (add_at _ _ _)) <| av 13 16383 rfl (op_fieldAddr FI25_0 rfl (add_at _ _ _)) <|
     av 14 32767 rfl (op_load 0 1 rfl rfl TI22 rfl (by decide)) <| av 15 65535 rfl (op_len (m := l0_0.length) 1 lenm Tryz.underlying22 rfl rfl) <| aC 16 131071 rfl (o_call0 FO16 (tarryref05_Room.ok (l0_0.length : Int) t27315 hA27316) rfl rfl (ltn rfl) (All_of .nil)) <| ?_
    rintro _ _ _ ⟨rfl, rfl, rfl⟩
    refine ⟨⟨⟨⟨0, rfl⟩, ⟨1, rfl⟩, trivial⟩, ⟨⟨0, rfl⟩, trivial⟩, trivial⟩, ?_⟩
    exact av 17 262143 rfl (op_cmp rfl rfl (congrArg some hb27317)) <| av 18 524287 rfl (op_pick rfl rfl) <| ad <| VN.meet0 [] [] trivial
  intro _
  replace h := iC h
  rcases h with ⟨c27318, h⟩ | ⟨c27318, h⟩
  · cases lT c27318 hb27317
    refine ct <| sr <| vs rfl <| dt <| VC.ret <| VR.then <| ?_
    obtain rfl := Option.some.inj h
    exact rq 4 rfl ⟨rfl, rfl, rfl⟩
  cases lF c27318 hb27317
  refine cf <| sk <| sr <| vs rfl <| dt <| VC.ret <| ?_
  obtain rfl := Option.some.inj h
  exact rq 4 rfl ⟨rfl, rfl, rfl⟩

theorem tarryref05_Right.ok (k : Nat) (l0_0 : List ByteArray) (l0_1 : List S71) (a0_2 : Int) (a0_3 : Int) (a0_4 : Int) (l0_5 : List ByteArray) (l0_6 : List ByteArray) (v0_0 : Value) (v0_1 : Value) (v0_5 : Value) (v0_6 : Value) (r1 : Bool) (h : tarryref05_Right.f k l0_0 l0_1 a0_2 a0_3 a0_4 l0_5 l0_6 = some r1) :
    VCalls Tryz.prog 10 [.agg #[v0_0, v0_1, iv a0_2, iv a0_3, iv a0_4, v0_5, v0_6]] [.row v0_0 1 (l0_0.map enc_str), .row v0_1 2 (l0_1.map enc71), .row v0_5 1 (l0_5.map enc_str), .row v0_6 1 (l0_6.map enc_str)] (fun v G own => v = .bool r1 ∧ G = [] ∧ own = []) := by
  refine VCalls.intro Tryz.func10 rfl (len rfl) fun E hC hW hD hU => ?_
  unfold tarryref05_Right.f at h
  refine sr <| sG (o_box rfl (.agg (.f 0 rfl (.f 1 rfl (.c rfl (.c rfl (.c rfl (.f 2 rfl (.f 3 rfl .nil))))))))) fun g8852 => vs rfl <| nx <| va (op_fieldAddr FI27_0 rfl (add_at _ _ _)) <| va (op_load 0 2 rfl rfl TI25 rfl (fun h => absurd h (by decide))) <| ?_
  replace h := bd h
  obtain ⟨⟨r27074, r27075, t27076, t27077, t27078, r27079, r27080, t27081⟩, hA27082, h⟩ := h
  dsimp only at h
  refine sC (o_call0 FO32 (tarryref05_Open.ok k l0_0 l0_1 v0_0 v0_1 r27074 r27075 t27076 t27077 t27078 r27079 r27080 t27081 hA27082) rfl rfl (ltn rfl) (All_of (.cons (mG 0 rfl) (.cons (mG 1 rfl) .nil)))) <| ?_
  rintro _ _ _ ⟨v27084, v27086, v27088, v27090, rfl, rfl, rfl⟩
  refine sG (o_alloc Z59 ZL59) fun g27091 => s1 (o_store 0 8 rfl rfl rfl TI59 (.agg (.f 0 rfl (.f 1 rfl (.c rfl (.c rfl (.c rfl (.r 0 rfl (.r 1 rfl (.c rfl .nil))))))))) rfl (len rfl)) <| nx <| va (op_fieldAddr FI59_1 rfl (add_at _ _ _)) <| va (op_load 0 1 rfl rfl TI29 rfl (by decide)) <|
   VL.letter ((t27081 == 0)) fun b27322 hb27322 => va (op_cmp rfl rfl (congrArg some hb27322)) <| vm rfl <| ?_
  replace h := iC h
  rcases h with ⟨c27323, h⟩ | ⟨c27323, h⟩
  · obtain rfl : b27322 = true := hb27322.symm.trans (beq_iff_eq.2 c27323)
    refine va (op_fieldAddr FI59_0 rfl (add_at _ _ _)) <| va (op_fieldAddr FI27_1 rfl (add_at _ _ _)) <| va (op_load 0 1 rfl rfl TI3 rfl (by decide)) <| va (op_fieldAddr FI27_1 rfl (add_at _ _ _)) <| va (op_load 1 1 rfl rfl TI3 rfl (by decide)) <|
     VL.letter ((t27076 == a0_2)) fun b27324 hb27324 => va (op_cmp rfl rfl (congrArg some hb27324)) <| va (op_pick rfl rfl) <| vm rfl <| ?_
    replace h := iC h
    rcases h with ⟨c27325, h⟩ | ⟨c27325, h⟩
    · obtain rfl : b27324 = true := hb27324.symm.trans (beq_iff_eq.2 c27325)
      refine va (op_fieldAddr FI59_0 rfl (add_at _ _ _)) <| va (op_fieldAddr FI27_2 rfl (add_at _ _ _)) <| va (op_load 0 1 rfl rfl TI3 rfl (by decide)) <| va (op_fieldAddr FI27_2 rfl (add_at _ _ _)) <| va (op_load 1 1 rfl rfl TI3 rfl (by decide)) <|
       VL.letter ((t27077 == a0_3)) fun b27326 hb27326 => va (op_cmp rfl rfl (congrArg some hb27326)) <| va (op_pick rfl rfl) <| vm rfl <| ?_
      replace h := iC h
      rcases h with ⟨c27327, h⟩ | ⟨c27327, h⟩
      · obtain rfl : b27326 = true := hb27326.symm.trans (beq_iff_eq.2 c27327)
        refine va (op_fieldAddr FI59_0 rfl (add_at _ _ _)) <| va (op_fieldAddr FI27_3 rfl (add_at _ _ _)) <| va (op_load 0 1 rfl rfl TI3 rfl (by decide)) <| va (op_fieldAddr FI27_3 rfl (add_at _ _ _)) <| va (op_load 1 1 rfl rfl TI3 rfl (by decide)) <|
         VL.letter ((t27078 == a0_4)) fun b27328 hb27328 => va (op_cmp rfl rfl (congrArg some hb27328)) <| va (op_pick rfl rfl) <| vm rfl <| ?_
        replace h := iC h
        rcases h with ⟨c27329, h⟩ | ⟨c27329, h⟩
        · obtain rfl : b27328 = true := hb27328.symm.trans (beq_iff_eq.2 c27329)
          refine va (op_fieldAddr FI59_0 rfl (add_at _ _ _)) <| va (op_fieldAddr FI27_5 rfl (add_at _ _ _)) <| va (op_load 0 1 rfl rfl TI22 rfl (by decide)) <| va (op_fieldAddr FI27_5 rfl (add_at _ _ _)) <| va (op_load 1 1 rfl rfl TI22 rfl (by decide)) <| ?_
          replace h := bd h
          obtain ⟨t27330, hA27331, h⟩ := h
          refine sC (o_call_b0 FO33 (tarryref01_Same.ok k r27080 l0_6 v27090 v0_6 t27330 hA27331) rfl rfl (ltn rfl) (All_of (.cons (.inr (.inl ⟨_, mG 1 rfl, rfl⟩)) (.cons (.inl (mG 5 rfl)) .nil))) (by rintro _ _ _ ⟨rfl, rfl, rfl⟩; rfl)) <| ?_
          rintro _ _ _ ⟨rfl, rfl, rfl⟩
          refine va (op_pick rfl rfl) <| vm rfl <| ?_
          replace h := iC h
          rcases h with ⟨c27332, h⟩ | ⟨c27332, h⟩
          · obtain rfl := c27332
            refine va (op_load 1 7 rfl rfl TI27 rfl (fun h => absurd h (by decide))) <| va (op_fieldAddr FI27_4 rfl (add_at _ _ _)) <| va (op_load 1 1 rfl rfl TI22 rfl (by decide)) <| ?_
            replace h := bd h
            obtain ⟨t27333, hA27334, h⟩ := h
            refine sC (o_call0 FO12 (tarryref05_Waits.ok k l0_0 l0_1 a0_2 a0_3 a0_4 l0_5 l0_6 l0_5 v0_0 v0_1 v0_5 v0_6 v0_5 t27333 hA27334) rfl rfl (ltn rfl) (All_of (.cons (mG 2 rfl) (.cons (mG 3 rfl) (.cons (mG 4 rfl) (.cons (mG 5 rfl) (.cons (mG 4 rfl) .nil))))))) <| ?_
            rintro _ _ _ ⟨rfl, rfl, rfl⟩
            refine VL.letter ((t27333 == 0)) fun b27335 hb27335 => va (op_cmp rfl rfl (congrArg some hb27335)) <| va (op_pick rfl rfl) <| vs rfl <| dt <| VC.ret <| ?_
            obtain rfl := Option.some.inj h
            subst hb27335
            exact rq 2 rfl ⟨rfl, rfl, rfl⟩
          obtain rfl := Bool.eq_false_iff.2 c27332
          refine un rfl <| un rfl <| un rfl <| un rfl <| un rfl <| va (op_pick rfl rfl) <| vs rfl <| dt <| VC.ret <| ?_
          obtain rfl := Option.some.inj h
          exact rq 2 rfl ⟨rfl, rfl, rfl⟩
        obtain rfl : b27328 = false := hb27328.symm.trans (beq_eq_false_iff_ne.2 c27329)
        refine un rfl <| un rfl <| un rfl <| un rfl <| un rfl <| un rfl <| va (op_pick rfl rfl) <| vm rfl <| un rfl <| un rfl <| un rfl <| un rfl <| un rfl <| va (op_pick rfl rfl) <| vs rfl <| dt <| VC.ret <| ?_
        obtain rfl := Option.some.inj h
        exact rq 2 rfl ⟨rfl, rfl, rfl⟩
      obtain rfl : b27326 = false := hb27326.symm.trans (beq_eq_false_iff_ne.2 c27327)
      refine un rfl <| un rfl <| un rfl <| un rfl <| un rfl <| un rfl <| va (op_pick rfl rfl) <| vm rfl <| un rfl <| un rfl <| un rfl <| un rfl <| un rfl <| un rfl <| va (op_pick rfl rfl) <| vm rfl <| un rfl <| un rfl <| un rfl <| un rfl <| un rfl <| va (op_pick rfl rfl) <| vs rfl <| dt <| VC.ret <| ?_
      obtain rfl := Option.some.inj h
      exact rq 2 rfl ⟨rfl, rfl, rfl⟩
    obtain rfl : b27324 = false := hb27324.symm.trans (beq_eq_false_iff_ne.2 c27325)
    refine un rfl <| un rfl <| un rfl <| un rfl <| un rfl <| un rfl <| va (op_pick rfl rfl) <| vm rfl <| un rfl <| un rfl <| un rfl <| un rfl <| un rfl <| un rfl <| va (op_pick rfl rfl) <| vm rfl <| un rfl <| un rfl <| un rfl <| un rfl <| un rfl <| un rfl <| va (op_pick rfl rfl) <| vm rfl <| un rfl <|
     un rfl <| un rfl <| un rfl <| un rfl <| va (op_pick rfl rfl) <| vs rfl <| dt <| VC.ret <| ?_
    obtain rfl := Option.some.inj h
    exact rq 2 rfl ⟨rfl, rfl, rfl⟩
  obtain rfl : b27322 = false := hb27322.symm.trans (beq_eq_false_iff_ne.2 c27323)
  refine un rfl <| un rfl <| un rfl <| un rfl <| un rfl <| un rfl <| va (op_pick rfl rfl) <| vm rfl <| un rfl <| un rfl <| un rfl <| un rfl <| un rfl <| un rfl <| va (op_pick rfl rfl) <| vm rfl <| un rfl <| un rfl <| un rfl <| un rfl <| un rfl <| un rfl <| va (op_pick rfl rfl) <| vm rfl <| un rfl <|
   un rfl <| un rfl <| un rfl <| un rfl <| un rfl <| va (op_pick rfl rfl) <| vm rfl <| un rfl <| un rfl <| un rfl <| un rfl <| un rfl <| va (op_pick rfl rfl) <| vs rfl <| dt <| VC.ret <| ?_
  obtain rfl := Option.some.inj h
  exact rq 2 rfl ⟨rfl, rfl, rfl⟩

def lay_82_ren : Go.Shelf.Ren := ⟨fun | 212 => 82 | 263 => 96 | 264 => 97 | n => n, fun | 46 => 117 | 51 => 64 | 146 => 133 | 53 => 42 | 148 => 135 | n => n, fun | n => n⟩
theorem lay_82 : Go.Proofs.Lays.n212 Tryz.prog lay_82_ren where
  mixed := by kernel_rfl
  f212 := Tryz.func82.trans (congrArg some (by kernel_rfl))
  f263 := Tryz.func96.trans (congrArg some (by kernel_rfl))
  f264 := Tryz.func97.trans (congrArg some (by kernel_rfl))
  t46 := Tryz.underlying117
  a46 := Tryz.isAgg117
  z46 := Tryz.sizeOf117
  v46 := Tryz.zeroValue117
  t51 := Tryz.underlying64
  a51 := Tryz.isAgg64
  z51 := Tryz.sizeOf64
  v51 := Tryz.zeroValue64
  t53 := Tryz.underlying42
  a53 := Tryz.isAgg42
  z53 := Tryz.sizeOf42
  v53 := Tryz.zeroValue42
  t146 := Tryz.underlying133
  a146 := Tryz.isAgg133
  z146 := Tryz.sizeOf133
  v146 := Tryz.zeroValue133
  t148 := Tryz.underlying135
  a148 := Tryz.isAgg135
  z148 := Tryz.sizeOf135
  v148 := Tryz.zeroValue135
theorem slices_Repeat_string_string.mul (x y : Nat) (hx : x * y < 18446744073709551616) (hx1 : x < 18446744073709551616) (hy : y < 18446744073709551616) : VCalls Tryz.prog 82 [.int .u64 x, .int .u64 y] [] (fun v G own => v = .tuple [.int .u64 0, .int .u64 ((x * y : Nat) : Int)].toArray ∧ G = [] ∧ own = []) := by
  refine VCalls.of fun w => (Go.Proofs.Any.bits_Mul lay_82 x y hx1 hy w).mono ?_
  rintro e w' ⟨he, hw⟩
  rw [Nat.div_eq_of_lt hx, Nat.mod_eq_of_lt hx] at he
  exact ⟨he, hw ▸ Below.refl _ _⟩
theorem slices_Repeat_string_string.ok (l0 : List ByteArray) (a1 : Int) (v0 : Value) (r1 : List ByteArray) (h : slices_Repeat_string_string.f l0 a1 = some r1) :
    VCalls Tryz.prog 75 [v0, iv a1] [.row v0 1 (l0.map enc_str)] (fun v G own => ∃ w0 : Value, v = w0 ∧ G = [] ∧ own = [(w0, 9, 1, r1.map enc_str)]) := by
  unfold slices_Repeat_string_string.f at h
  by_cases hc : ¬ (0 < l0.length ∧ 0 < a1 ∧ l0.length * a1.toNat * 16 ≤ 140737488355328)
  · rw [if_neg hc] at h; cases h
  replace hc := Decidable.not_not.1 hc
  rw [if_pos hc] at h
  obtain rfl := Option.some.inj h
  clear h
  obtain ⟨hl0, ha1, hbig⟩ := hc
  obtain ⟨n, rfl⟩ : ∃ n : Nat, a1 = (n : Int) := ⟨a1.toNat, by omega⟩
  have hn0 : 0 < n := by omega
  clear ha1
  simp only [Int.toNat_natCast] at hbig ⊢
  obtain ⟨N, hN⟩ : ∃ N, l0.length * n = N := ⟨_, rfl⟩
  have hNp : 0 < N := by rw [← hN]; exact Nat.mul_pos hl0 hn0
  have hpN : l0.length ≤ N := by rw [← hN]; exact Nat.le_mul_of_pos_right _ hn0
  have hnN : n ≤ N := by rw [← hN]; exact Nat.le_mul_of_pos_left _ hl0
  rw [hN] at hbig
  have hNs : N ≤ 140737488355328 := by omega
  have hRl : (repl l0 n).length = N := by rw [repl_len, hN]
  have hRf : flatOk 1 ((repl l0 n).map enc_str) := flat_map enc_str_ok _
  have hLf : flatOk 1 (l0.map enc_str) := flat_map enc_str_ok _
  have hsh : ∀ j m, l0.length ∣ j → j + m ≤ N → (((repl l0 n).map enc_str).flatten.drop (j * 1)).take (m * 1) = ((repl l0 n).map enc_str).flatten.take (m * 1) := by
    rintro j m ⟨q, rfl⟩ hjm
    have hq : q ≤ n := by
      rcases Nat.lt_or_ge n q with h | h
      · have := Nat.mul_lt_mul_of_pos_left h hl0
        omega
      · exact h
    have e := repl_shift l0 n q hq
    rw [← flat_drop _ hRf, ← List.map_drop, e, List.map_take, flat_take _ hRf, List.take_take, Nat.min_eq_left (Nat.mul_le_mul_right _ (by omega))]
  have hRF : ((repl l0 n).map enc_str).flatten.length = N * 1 := by rw [flat_len hRf, lenm, hRl]
  have hR1 : ((repl l0 n).map enc_str).flatten.take (l0.length * 1) = (l0.map enc_str).flatten := by
    obtain ⟨k, rfl⟩ : ∃ k, n = k + 1 := ⟨n - 1, by omega⟩
    rw [repl, List.map_append, List.flatten_append, ← lenm (f := enc_str) (xs := l0), ← flat_len hLf, List.take_left]
  have hone : ∀ k, ∀ u ∈ ((repl l0 n).map enc_str).flatten.take k, u.oneCell' = true := fun k u hu => flat_one hRf u (List.mem_of_mem_take hu)
  generalize hRR : ((repl l0 n).map enc_str).flatten = R at *
  refine VCalls.intro Tryz.func75 rfl (len rfl) fun E hC hW hD hU => ?_
  refine VC.formF 0 rfl fun A cap hv h1 h2 h3 => ?_
  rw [lenm] at hv h1 h3
  subst hv
  cases A with
  | none => exact absurd (h3 rfl) (by omega)
  | some ad =>
  clear h3
  refine VC.seq (VC.region ?_)
  refine VL.va (op_assign rfl (ltn rfl)) rfl ?_
  refine VL.done (VN.then ?_)
  refine VC.seq ?_
  refine VC.seq (VC.region ?_)
  refine VL.va (op_move rfl (ltn rfl)) rfl ?_
  refine VL.letter (decide ((n : Int) < 0)) fun b1 hb1 => ?_
  refine VL.va (op_cmp rfl rfl (congrArg some hb1) (ltn rfl)) rfl ?_
  refine VL.done (VN.then ?_)
  obtain rfl : b1 = false := hb1.symm.trans (decide_eq_false (by omega))
  clear hb1
  refine VC.cond_f rfl (VC.skip (VN.then ?_))
  refine VC.seq (VC.region ?_)
  refine VL.va (op_move rfl (ltn rfl)) rfl ?_
  refine VL.va (op_len (m := l0.length) 0 lenm Tryz.underlying22 rfl rfl (ltn rfl)) rfl ?_
  refine VL.va (op_conv (q := (l0.length : Int)) Tryz.underlying3 Tryz.underlying117 rfl (by rw [IntKind.wrap_u64]; omega) (ltn rfl)) rfl ?_
  refine VL.va (op_move rfl (ltn rfl)) rfl ?_
  refine VL.va (op_conv (q := (n : Int)) Tryz.underlying3 Tryz.underlying117 rfl (by rw [IntKind.wrap_u64]; omega) (ltn rfl)) rfl ?_
  refine VL.sC (o_call0 FO82 (slices_Repeat_string_string.mul l0.length n (by rw [hN]; omega) (by omega) (by omega)) rfl rfl (ltn rfl) (All_of .nil)) rfl ?_
  rintro _ _ _ ⟨rfl, rfl, rfl⟩
  rw [hN]
  refine VL.va (op_move rfl (ltn rfl)) rfl ?_
  refine VL.va (op_extract rfl rfl (ltn rfl)) rfl ?_
  refine VL.va (op_extract rfl rfl (ltn rfl)) rfl ?_
  refine VL.va (op_assign rfl (ltn rfl)) rfl ?_
  refine VL.va (op_assign rfl (ltn rfl)) rfl ?_
  refine VL.done (VN.then ?_)
  refine VC.seq ?_
  refine VC.seq (VC.region ?_)
  refine VL.va (op_move rfl (ltn rfl)) rfl ?_
  refine VL.va (op_cmp (b := false) rfl rfl rfl (ltn rfl)) rfl ?_
  refine VL.va (op_move rfl (ltn rfl)) rfl ?_
  refine VL.va (op_move rfl (ltn rfl)) rfl ?_
  refine VL.letter (decide ((N : Int) > 9223372036854775807)) fun b2 hb2 => ?_
  refine VL.va (op_cmp rfl rfl (congrArg some hb2) (ltn rfl)) rfl ?_
  refine VL.va (op_pick rfl rfl (ltn rfl)) rfl ?_
  refine VL.done (VN.then ?_)
  obtain rfl : b2 = false := hb2.symm.trans (decide_eq_false (by omega))
  clear hb2
  refine VC.cond_f rfl (VC.skip (VN.then ?_))
  refine VC.seq (VC.region ?_)
  refine VL.va (op_move rfl (ltn rfl)) rfl ?_
  refine VL.va (op_conv (q := (N : Int)) Tryz.underlying117 Tryz.underlying3 rfl (by rw [IntKind.wrap_i64]; omega) (ltn rfl)) rfl ?_
  refine o_makeSlice Tryz.underlying22 EI9 rfl rfl hbig (ltn rfl) rfl fun g cur hcur => ?_
  refine VL.va (op_assign rfl (ltn rfl)) rfl ?_
  refine VL.done (VN.then ?_)
  refine VC.seq (VC.region ?_)
  refine VL.va (op_move rfl (ltn rfl)) rfl ?_
  refine VL.va (op_move rfl (ltn rfl)) rfl ?_
  have hLl : (l0.map enc_str).flatten.length = l0.length * 1 := by rw [flat_len hLf, lenm]
  refine VL.step1 (o_copy (m := l0.length) (cs := (l0.map enc_str).flatten) 0 Tryz.underlying22 TI9 rfl rfl rfl (Nat.min_eq_left hpN) hLl (by rw [hLl, hcur, Nat.zero_add]; exact Nat.mul_le_mul_right _ hpN) (src_row 0 rfl) (flat_one hLf) rfl (ltn rfl)) rfl ?_
  refine VL.va (op_assign rfl (ltn rfl)) rfl ?_
  refine VL.done (VN.then ?_)
  have hc1 : (upd cur 0 (l0.map enc_str).flatten).length = N * 1 := by rw [upd_len, hcur]; rw [hLl, hcur, Nat.zero_add]; exact Nat.mul_le_mul_right _ hpN
  have hc2 : (upd cur 0 (l0.map enc_str).flatten).take (l0.length * 1) = R.take (l0.length * 1) := by
    rw [hR1, upd, List.take_zero, List.nil_append, ← hLl, List.take_left]
  generalize upd cur 0 (l0.map enc_str).flatten = cur1 at hc1 hc2 ⊢
  clear hcur
  refine VC.seq (VC.block ?_)
  refine VC.loop2 (fun (j : Nat) (cs : List Value) => ⟨48, [(7, .slice (some ⟨g, 0, none⟩) N N), (8, iv j)], [.row (.slice (some ad) l0.length cap) 1 (l0.map enc_str)], [(g, 9, cs)], []⟩)
    (fun k j cs => N < k + j ∧ 0 < j ∧ j ≤ N ∧ cs.length = N * 1 ∧ cs.take (j * 1) = R.take (j * 1) ∧ (l0.length ∣ j ∨ j = N))
    (N + 1) l0.length cur1 [0] [] ⟨by omega, hl0, hpN, hc1, hc2, .inl (Nat.dvd_refl _)⟩ ⟨rfl, ⟨rfl, rfl, trivial⟩, SubF.of (fun _ h => h), rfl, by decide, rfl, by decide⟩ (by rintro j cs ⟨h, _, h2, _⟩; omega) ?_
  clear hc1 hc2 cur1
  rintro k ih j cs ⟨hk, hj0, hjN, hcl, hct, hdv⟩
  refine VC.seq ?_
  refine VC.seq (VC.region ?_)
  refine VL.va (op_move rfl (ltn rfl)) rfl ?_
  refine VL.va (op_move rfl (ltn rfl)) rfl ?_
  refine VL.va (op_lenV Tryz.underlying22 rfl (ltn rfl)) rfl ?_
  refine VL.letter (decide ((j : Int) < (N : Int))) fun b3 hb3 => ?_
  refine VL.va (op_cmp rfl rfl (congrArg some hb3) (ltn rfl)) rfl ?_
  refine VL.done (VN.then ?_)
  by_cases c3 : j < N
  · obtain rfl : b3 = true := hb3.symm.trans (decide_eq_true (by omega))
    clear hb3
    refine VC.cond_t rfl (VC.skip (VN.then ?_))
    have hdv2 := hdv.resolve_right (by omega)
    obtain ⟨m, hm⟩ : ∃ m, min j (N - j) = m := ⟨_, rfl⟩
    have hm1 : m ≤ j := by omega
    have hm2 : m ≤ N - j := by omega
    have hm0 : 0 < m := by omega
    have hjm : j * 1 + m * 1 ≤ N * 1 := by rw [← Nat.add_mul]; exact Nat.mul_le_mul_right _ (by omega)
    have hmj : m * 1 ≤ j * 1 := Nat.mul_le_mul_right _ hm1
    have hcs : (cs.drop 0).take (m * 1) = R.take (m * 1) := by
      have := congrArg (List.take (m * 1)) hct
      rw [List.take_take, List.take_take, Nat.min_eq_left hmj] at this
      rw [List.drop_zero]
      exact this
    have hcsl : (R.take (m * 1)).length = m * 1 := by rw [List.length_take, hRF]; omega
    refine VC.block ?_
    refine VC.draw ⟨0, [], [], [], []⟩ (by kernel_rfl) rfl (by kernel_rfl) (n := 10) (listed := LB 10 0) ?_
    refine VA.va (i := 0) (listed' := LB 10 1) rfl (op_move rfl (ltn rfl)) rfl (by kernel_rfl) (by kernel_rfl) (by kernel_rfl) (by kernel_rfl) ⟨trivial, trivial, trivial⟩ (fun _ _ _ h => h) ?_
    refine VA.va (i := 1) (listed' := LB 10 3) rfl (op_move rfl (ltn rfl)) rfl (by kernel_rfl) (by kernel_rfl) (by kernel_rfl) (by kernel_rfl) ⟨trivial, trivial, trivial⟩ (fun _ _ _ h => h) ?_
    refine VA.va (i := 2) (listed' := LB 10 7) rfl (op_move rfl (ltn rfl)) rfl (by kernel_rfl) (by kernel_rfl) (by kernel_rfl) (by kernel_rfl) ⟨trivial, trivial, trivial⟩ (fun _ _ _ h => h) ?_
    refine VA.va (i := 3) (listed' := LB 10 15) rfl (op_cutV' j N (cutV_at0 (.inl c3)) Tryz.underlying22 TI9 rfl ⟨⟨_, _, rfl, Int.natCast_nonneg j, Int.toNat_natCast _⟩, rfl, by omega, Nat.le_refl _⟩ (Nat.le_refl _) (ltn rfl)) rfl (by kernel_rfl) (by kernel_rfl) (by kernel_rfl) (by kernel_rfl) ⟨trivial, trivial, trivial⟩ (fun _ _ _ h => h) ?_
    refine VA.va (i := 4) (listed' := LB 10 31) rfl (op_move rfl (ltn rfl)) rfl (by kernel_rfl) (by kernel_rfl) (by kernel_rfl) (by kernel_rfl) ⟨trivial, trivial, trivial⟩ (fun _ _ _ h => h) ?_
    refine VA.va (i := 5) (listed' := LB 10 63) rfl (op_move rfl (ltn rfl)) rfl (by kernel_rfl) (by kernel_rfl) (by kernel_rfl) (by kernel_rfl) ⟨trivial, trivial, trivial⟩ (fun _ _ _ h => h) ?_
    refine VA.va (i := 6) (listed' := LB 10 127) rfl (op_cutH' 0 j (v := .slice (some ⟨g, 0, none⟩) j N) (by rw [cutV_at0 (.inr rfl)]; simp) Tryz.underlying22 TI9 rfl ⟨rfl, ⟨_, _, rfl, Int.natCast_nonneg j, Int.toNat_natCast j⟩, Nat.zero_le _, by omega⟩ (ltn rfl)) rfl (by kernel_rfl) (by kernel_rfl) (by kernel_rfl) (by kernel_rfl) ⟨trivial, trivial, trivial⟩ (fun _ _ _ h => h) ?_
    refine VA.one1 (i := 7) (listed' := LB 10 255) (by kernel_rfl) rfl (o_copy (m := m) (cs := R.take (m * 1)) 0 Tryz.underlying22 TI9 rfl rfl rfl hm hcsl (by rw [hcsl, hcl]; exact hjm) (src_box (m * 1) 0 rfl hcs.symm) (hone _) rfl (ltn rfl)) rfl (by kernel_rfl) ⟨trivial, trivial, trivial⟩ ?_
    refine VA.va (i := 8) (listed' := LB 10 511) rfl (op_ari64 (q := ((j + m : Nat) : Int)) rfl rfl (congrArg some (by show wrap64 ((j : Int) + (m : Int)) = _; exact w64 (by omega) (by omega))) (ltn rfl)) rfl (by kernel_rfl) (by kernel_rfl) (by kernel_rfl) (by kernel_rfl) ⟨trivial, trivial, trivial⟩ (fun _ _ _ h => h) ?_
    refine VA.va (i := 9) (listed' := LB 10 1023) rfl (op_assign rfl (ltn rfl)) rfl (by kernel_rfl) (by kernel_rfl) (by kernel_rfl) (by kernel_rfl) ⟨trivial, trivial, trivial⟩ (fun _ _ _ h => h) ?_
    refine VA.done (by kernel_rfl) (VN.block ?_)
    refine VN.again [0] [] (ih (j + m) (upd cs (j * 1) (R.take (m * 1))) ⟨by omega, by omega, by omega, ?_, ?_, ?_⟩) ⟨rfl, ⟨rfl, rfl, trivial⟩, SubF.of (fun _ h => h), rfl, by decide, rfl, by decide⟩
    · rw [upd_len, hcl]
      rw [hcsl, hcl]
      exact hjm
    · have h1 : (R.take (j * 1)).length = j * 1 := by rw [List.length_take, hRF]; omega
      have h2 : (R.take (j * 1) ++ R.take (m * 1)).length = (j + m) * 1 := by rw [List.length_append, h1, hcsl, Nat.add_mul]
      unfold upd
      rw [hct, ← h2, List.take_left, h2, Nat.add_mul, List.take_add, hsh j m hdv2 (by omega)]
    · rcases Nat.lt_or_ge (N - j) j with h | h
      · exact .inr (by omega)
      · have : m = j := by omega
        subst this
        exact .inl (by obtain ⟨q, hq⟩ := hdv2; exact ⟨q + q, by rw [Nat.mul_add, ← hq]⟩)
  obtain rfl : b3 = false := hb3.symm.trans (decide_eq_false (by omega))
  clear hb3
  obtain rfl : j = N := by omega
  refine VC.cond_f rfl ?_
  refine VC.exit (VX.then (VX.then (VX.hit (VN.then ?_))))
  refine VC.seq (VC.region ?_)
  refine VL.va (op_move rfl (ltn rfl)) rfl ?_
  refine VL.va (op_assign rfl (ltn rfl)) rfl ?_
  refine VL.done (VN.then ?_)
  refine VC.ret ?_
  refine VR.closeBox 0 j 1 ((repl l0 n).map enc_str) rfl (by rw [lenm, hRl]; exact Nat.le_refl _) (by simp only [maxLen]; omega) hcl ?_ hRf ?_
  · rw [lenm, hRl, hct, hRR, ← hRF, List.take_length]
  rw [lenm, hRl]
  exact VR.fn (rs := [.tmp 4]) [] [(.slice (some ⟨g, 0, none⟩) j j, 9, 1, (repl l0 n).map enc_str)] [0] rfl (.tmp rfl .nil) ⟨_, rfl, rfl, rfl⟩ trivial rfl (by decide)

theorem disk_New.ok (a0 : Int)  (r1 : List ByteArray) (r2 : List S71) (r3 : Int) (h : disk_New.f a0 = some (r1, r2, r3)) :
    VCalls Tryz.prog 53 [iv a0] [] (fun v G own => ∃ w0 w1 : Value, v = .tuple #[.agg #[w0, w1], iv r3] ∧ G = [] ∧ own = [(w0, 9, 1, r1.map enc_str), (w1, 72, 2, r2.map enc71)]) := by
  refine VCalls.intro Tryz.func53 rfl (len rfl) fun E hC hW hD hU => ?_
  unfold disk_New.f at h
  refine sr <| sG (o_alloc Z25 ZL25) fun g27355 => vs rfl <| ds <| sr <| vm rfl <| VL.letter (decide (a0 < 1)) fun b27370 hb27370 => va (op_cmp rfl rfl (congrArg some hb27370)) <| vm rfl <| ?_
  replace h := iC h
  rcases h with ⟨c27371, h⟩ | ⟨c27371, h⟩
  · cases lT c27371 hb27370
    refine un rfl <| un rfl <| va (op_pick rfl rfl) <| dt <| ct <| sr <| va (op_build (vals := []) (vcs := []) (cells := [sn, sn]) SI25 rfl .nil (by kernel_rfl)) <| s1 (o_store 0 2 rfl rfl rfl TI25 (.agg (.of rfl)) rfl (len rfl)) <| vs rfl <| dt <| VC.ret <| VR.then <| ?_
    simp only [Option.some.injEq, Prod.mk.injEq] at h
    obtain ⟨rfl, rfl, rfl⟩ := h
    exact VR.nilRow' 9 1 <| VR.nilRow' 72 2 <| rf [.cell 2 25, .tmp 3] [1, 0] (.cell 0 rfl rfl TI25 (fun h => absurd h (by decide)) (.tmp rfl .nil)) ⟨sn, sn, rfl, rfl, rfl⟩
  cases lF c27371 hb27370
  refine vm rfl <| VL.letter (decide (a0 > 512)) fun b27374 hb27374 => va (op_cmp rfl rfl (congrArg some hb27374)) <| va (op_pick rfl rfl) <| dt <| ?_
  replace h := iC h
  rcases h with ⟨c27375, h⟩ | ⟨c27375, h⟩
  · cases lT c27375 hb27374
    refine ct <| sr <| va (op_build (vals := []) (vcs := []) (cells := [sn, sn]) SI25 rfl .nil (by kernel_rfl)) <| s1 (o_store 0 2 rfl rfl rfl TI25 (.agg (.of rfl)) rfl (len rfl)) <| vs rfl <| dt <| VC.ret <| VR.then <| ?_
    simp only [Option.some.injEq, Prod.mk.injEq] at h
    obtain ⟨rfl, rfl, rfl⟩ := h
    exact VR.nilRow' 9 1 <| VR.nilRow' 72 2 <| rf [.cell 2 25, .tmp 3] [1, 0] (.cell 0 rfl rfl TI25 (fun h => absurd h (by decide)) (.tmp rfl .nil)) ⟨sn, sn, rfl, rfl, rfl⟩
  cases lF c27375 hb27374
  refine cf <| sk <| sr <| ?_
  replace h := bd h
  obtain ⟨r27378, hA27379, h⟩ := h
  refine sC (o_call0 FO63 (strings_Repeat.ok (⟨#[0]⟩ : ByteArray) 64 r27378 hA27379) rfl rfl (ltn rfl) (All_of .nil)) <| ?_
  rintro _ _ _ ⟨rfl, rfl, rfl⟩
  refine sG (o_buildSlice (vals := [(0, .string r27378)]) (cells := #[.string r27378]) (es := List.map enc_str ([r27378] : List ByteArray)) Tryz.underlying22 TI9 Z9 rfl (by decide) (by decide) (by kernel_rfl) (by kernel_rfl) rfl (flat_map enc_str_ok _)) fun v27381 => vm rfl <| ?_
  replace h := bd h
  obtain ⟨r27382, hA27383, h⟩ := h
  refine sC (o_call_b0 FO75 (slices_Repeat_string_string.ok ([r27378] : List ByteArray) a0 v27381 r27382 hA27383) rfl rfl (ltn rfl) (All_of (.cons (.inr (.inl ⟨_, mG 0 rfl, rfl⟩)) .nil)) (by rintro _ _ _ ⟨_, rfl, rfl, rfl⟩; rfl)) <| ?_
  rintro v27385 _ _ ⟨_, rfl, rfl, rfl⟩
  refine va (op_build (vals := [(0, v27385)]) (vcs := [(0, [v27385])]) (cells := [v27385, sn]) SI25 rfl (.cons ⟨rfl, (.r 0 rfl)⟩ .nil) (by kernel_rfl)) <| s1 (o_store 0 2 rfl rfl rfl TI25 (.agg (.r 0 rfl (.c rfl .nil))) rfl (len rfl)) <| vs rfl <| dt <| VC.ret <| ?_
  simp only [Option.some.injEq, Prod.mk.injEq] at h
  obtain ⟨rfl, rfl, rfl⟩ := h
  exact VR.nilRow' 72 2 <| rf [.cell 2 25, .tmp 3] [1, 0] (.cell 0 rfl rfl TI25 (fun h => absurd h (by decide)) (.tmp rfl .nil)) ⟨v27385, sn, rfl, rfl, rfl⟩

end Go.Proofs.YtipeglbeongfmaaGreat.PJournalCrashes
