/- Written by a program of this repo: what the program's functions do, each as a Lean function, shown of the loaded code; or a statement's row over that; no condition of its own. -/
import Derived.Test.YtipeglbeongfmaaGreatPJournalSealsx16
namespace Go.Proofs.YtipeglbeongfmaaGreat.PJournalSeals
open Go Go.RowKit Go.Proofs.YtipeglbeongfmaaGreatV
set_option linter.unusedVariables false
set_option linter.unusedSimpArgs false
set_option maxHeartbeats 4000000
set_option maxRecDepth 100000

theorem tarryref05_Waits.ok (k : Nat) (l0_0 : List ByteArray) (l0_1 : List S71) (a0_2 : Int) (a0_3 : Int) (a0_4 : Int) (l0_5 : List ByteArray) (l0_6 : List ByteArray) (l1 : List ByteArray) (v0_0 : Value) (v0_1 : Value) (v0_5 : Value) (v0_6 : Value) (v1 : Value) (r1 : Int) (h : tarryref05_Waits.f k l0_0 l0_1 a0_2 a0_3 a0_4 l0_5 l0_6 l1 = some r1) :
    VCalls Tryz.prog 12 [.agg #[v0_0, v0_1, iv a0_2, iv a0_3, iv a0_4, v0_5, v0_6], v1] [.row v0_0 1 (l0_0.map enc_str), .row v0_1 2 (l0_1.map enc71), .row v0_5 1 (l0_5.map enc_str), .row v0_6 1 (l0_6.map enc_str), .row v1 1 (l1.map enc_str)] (fun v G own => v = iv r1 ∧ G = [] ∧ own = []) := by
  refine VCalls.intro Tryz.func12 rfl (len rfl) fun E hC hW hD hU => ?_
  unfold tarryref05_Waits.f at h
  refine sr <| sG (o_box rfl (.agg (.f 0 rfl (.f 1 rfl (.c rfl (.c rfl (.c rfl (.f 2 rfl (.f 3 rfl .nil))))))))) fun g27323 => vs rfl <| ds <| sr <| vm rfl <| va (op_len (m := l1.length) 4 lenm Tryz.underlying22 rfl rfl) <| vm rfl <| dt <| VC.block <|
   VC.loop1 (fun (i27381 : Int) => ⟨40, [(1, v1), (2, pt g27323 0), (4, iv 0), (8, v1), (9, iv (l1.length : Int)), (10, iv i27381)], [.row v1 1 (l1.map enc_str), .row v0_0 1 (l0_0.map enc_str), .row v0_1 2 (l0_1.map enc71), .row v0_5 1 (l0_5.map enc_str), .row v0_6 1 (l0_6.map enc_str)], [(g27323, 27, [v0_0, v0_1, iv a0_2, iv a0_3, iv a0_4, v0_5, v0_6])], []⟩) (fun (ml1 : Nat) (i27381 : Int) => tarryref05_Waits.l1 k a0_4 l0_0 l1 ml1 i27381 = some r1) k 0 [0] [] h ⟨rfl, ⟨rfl, rfl, rfl, rfl, rfl, rfl, trivial⟩, ⟨⟨4, rfl⟩, ⟨0, rfl⟩, ⟨1, rfl⟩, ⟨2, rfl⟩, ⟨3, rfl⟩, trivial⟩, rfl, by decide, rfl, by decide⟩ (by intros; simp [tarryref05_Waits.l1]) <|
   ?_
  clear h
  intro ml1 ihl1 i27381 h
  simp only [tarryref05_Waits.l1] at h
  refine sr <| VL.letter (decide (i27381 < (l1.length : Int))) fun b27397 hb27397 => va (op_cmp rfl rfl (congrArg some hb27397)) <| ds <| ?_
  replace h := iC h
  rcases h with ⟨c27417, h⟩ | ⟨c27417, h⟩
  · cases lT c27417 hb27397
    refine ct <| sk <| sq <| VC.block <| sr <| ?_
    replace h := iN h
    obtain ⟨c27424, h⟩ := h
    replace h := bd h
    obtain ⟨x27425, hx27425, h⟩ := h
    refine VL.open (m := l1.length) 0 lenm rfl (pos_get hx27425) <| ?_
    rintro ad27426 n27427 rfl
    refine va (op_indexAddr Tryz.underlying22 TI9 rfl rfl c27424 (lt_get c27424 hx27425) rfl) <| va (op_load_row (sz := 1) (o := 0) 0 i27381.toNat 1 rfl rfl (get_map hx27425) TI9 rfl (by decide)) <| vs rfl <| nx <| vm rfl <| va (op_lens Tryz.underlying9 rfl) <|
     VL.letter (decide ((x27425.size : Int) > 1000)) fun b27428 hb27428 => va (op_cmp rfl rfl (congrArg some hb27428)) <| dt <| ?_
    replace h := iC h
    rcases h with ⟨c27429, h⟩ | ⟨c27429, h⟩
    · cases lT c27429 hb27428
      refine ct <| sr <| vs rfl <| dt <| VC.ret <| VR.block <| VR.then <| VR.then <| VR.block <| VR.then <| ?_
      obtain rfl := Option.some.inj h
      exact rq 4 rfl ⟨rfl, rfl, rfl⟩
    cases lF c27429 hb27428
    refine cf <| VC.skip <| VN.block <| tr <| va (op_ari64 rfl rfl rfl) <| vm rfl <| dn <| VN.again [0] [] (ihl1 (wrap64 (i27381 + 1)) h)
  cases lF c27417 hb27397
  refine cf <| VC.exit <| VX.then <| VX.then <| VX.hit <| tx <| vm rfl <| ?_
  replace h := bd h
  obtain ⟨t27430, hA27431, h⟩ := h
  refine sC (o_call0 FO14 (tarryref04_Whole.ok k l1 v1 t27430 hA27431) rfl rfl (ltn rfl) (All_of (.cons (mG 0 rfl) .nil))) <| ?_
  rintro _ _ _ ⟨rfl, rfl, rfl⟩
  refine va (op_lens Tryz.underlying9 rfl) <| vs rfl <| ds <| VC.letter (decide ((l1.length : Int) > 16)) fun b27440 hb27440 => ?_
  replace h := iC h
  rcases h with ⟨c27441, h⟩ | ⟨c27441, h⟩
  · cases lT c27441 hb27440
    refine VC.join0 (⟨40, [(4, iv 0), (39, .bool true)], [], [], []⟩) (True) ?_ ?_
    · exact dw ⟨0, [], [.row v1 1 (l1.map enc_str)], [], []⟩ 19 <| av 0 1 rfl (mv rfl) <| av 1 3 rfl (op_len (m := l1.length) 0 lenm Tryz.underlying22 rfl rfl) <| av 2 7 rfl (op_cmp rfl rfl (congrArg some hb27440)) <| av 3 15 rfl (mv rfl) <| au 4 31 rfl rfl <| au 5 63 rfl rfl <|
       av 6 127 rfl (op_pick rfl rfl) <| av 7 255 rfl (mv rfl) <| au 8 511 rfl rfl <| au 9 1023 rfl rfl <| au 10 2047 rfl rfl <| au 11 4095 rfl rfl <| au 12 8191 rfl rfl <| au 13 16383 rfl rfl <| au 14 32767 rfl rfl <| au 15 65535 rfl rfl <| au 16 131071 rfl rfl <| au 17 262143 rfl rfl <|
       av 18 524287 rfl (op_pick rfl rfl) <| ad <| VN.meet0 [] [] trivial
    intro _
    refine ct <| sr <| vs rfl <| dt <| VC.ret <| VR.then <| ?_
    obtain rfl := Option.some.inj h
    exact rq 4 rfl ⟨rfl, rfl, rfl⟩
  cases lF c27441 hb27440
  refine VC.letter (decide ((t27430.size : Int) > 3000)) fun b27442 hb27442 => ?_
  replace h := iC h
  rcases h with ⟨c27443, h⟩ | ⟨c27443, h⟩
  · cases lT c27443 hb27442
    refine VC.join0 (⟨40, [(4, iv 0), (39, .bool true)], [], [], []⟩) (True) ?_ ?_
    · exact dw ⟨0, [], [.row v1 1 (l1.map enc_str)], [], []⟩ 19 <| av 0 1 rfl (mv rfl) <| av 1 3 rfl (op_len (m := l1.length) 0 lenm Tryz.underlying22 rfl rfl) <| av 2 7 rfl (op_cmp rfl rfl (congrArg some hb27440)) <| av 3 15 rfl (mv rfl) <| av 4 31 rfl (mv rfl) <|
       av 5 63 rfl (op_cmp rfl rfl (congrArg some hb27442)) <| av 6 127 rfl (op_pick rfl rfl) <| av 7 255 rfl (mv rfl) <| au 8 511 rfl rfl <| au 9 1023 rfl rfl <| au 10 2047 rfl rfl <| au 11 4095 rfl rfl <| au 12 8191 rfl rfl <| au 13 16383 rfl rfl <| au 14 32767 rfl rfl <| au 15 65535 rfl rfl <|
       au 16 131071 rfl rfl <| au 17 262143 rfl rfl <| av 18 524287 rfl (op_pick rfl rfl) <| ad <| VN.meet0 [] [] trivial
    intro _
    refine ct <| sr <| vs rfl <| dt <| VC.ret <| VR.then <| ?_
    obtain rfl := Option.some.inj h
    exact rq 4 rfl ⟨rfl, rfl, rfl⟩
  cases lF c27443 hb27442
  replace h := bd h
  obtain ⟨t27444, hA27445, h⟩ := h
  refine VC.letter (decide ((wrap64 (a0_4 + (t27430.size : Int))) > t27444)) fun b27446 hb27446 => VC.join0 (⟨40, [(4, iv 0), (39, .bool b27446)], [], [], []⟩) (True) ?_ ?_
  · refine dw ⟨0, [], [.row v1 1 (l1.map enc_str), .row v0_0 1 (l0_0.map enc_str)], [(g27323, 27, [v0_0, v0_1, iv a0_2, iv a0_3, iv a0_4, v0_5, v0_6])], []⟩ 19 <| av 0 1 rfl (mv rfl) <| av 1 3 rfl (op_len (m := l1.length) 0 lenm Tryz.underlying22 rfl rfl) <|
     av 2 7 rfl (op_cmp rfl rfl (congrArg some hb27440)) <| av 3 15 rfl (mv rfl) <| av 4 31 rfl (mv rfl) <| av 5 63 rfl (op_cmp rfl rfl (congrArg some hb27442)) <| av 6 127 rfl (op_pick rfl rfl) <| av 7 255 rfl (mv rfl) <| av 8 511 rfl (op_fieldAddr FI27_3 rfl (add_at _ _ _)) <|
     av 9 1023 rfl (op_load 0 1 rfl rfl TI3 rfl (by decide)) <| av 10 2047 rfl (mv rfl) <| av 11 4095 rfl (op_ari64 rfl rfl rfl) <| av 12 8191 rfl (op_fieldAddr FI27_0 rfl (add_at _ _ _)) <| av 13 16383 rfl (op_fieldAddr FI25_0 rfl (add_at _ _ _)) <|
     av 14 32767 rfl (op_load 0 1 rfl rfl TI22 rfl (by decide)) <| av 15 65535 rfl (op_len (m := l0_0.length) 1 lenm Tryz.underlying22 rfl rfl) <| aC 16 131071 rfl (o_call0 FO16 (tarryref05_Room.ok (l0_0.length : Int) t27444 hA27445) rfl rfl (ltn rfl) (All_of .nil)) <| ?_
    rintro _ _ _ ⟨rfl, rfl, rfl⟩
    refine ⟨⟨⟨⟨0, rfl⟩, ⟨1, rfl⟩, trivial⟩, ⟨⟨0, rfl⟩, trivial⟩, trivial⟩, ?_⟩
    exact av 17 262143 rfl (op_cmp rfl rfl (congrArg some hb27446)) <| av 18 524287 rfl (op_pick rfl rfl) <| ad <| VN.meet0 [] [] trivial
  intro _
  replace h := iC h
  rcases h with ⟨c27447, h⟩ | ⟨c27447, h⟩
  · cases lT c27447 hb27446
    refine ct <| sr <| vs rfl <| dt <| VC.ret <| VR.then <| ?_
    obtain rfl := Option.some.inj h
    exact rq 4 rfl ⟨rfl, rfl, rfl⟩
  cases lF c27447 hb27446
  refine cf <| sk <| sr <| vs rfl <| dt <| VC.ret <| ?_
  obtain rfl := Option.some.inj h
  exact rq 4 rfl ⟨rfl, rfl, rfl⟩

theorem tarryref05_Right.ok (k : Nat) (l0_0 : List ByteArray) (l0_1 : List S71) (a0_2 : Int) (a0_3 : Int) (a0_4 : Int) (l0_5 : List ByteArray) (l0_6 : List ByteArray) (v0_0 : Value) (v0_1 : Value) (v0_5 : Value) (v0_6 : Value) (r1 : Bool) (h : tarryref05_Right.f k l0_0 l0_1 a0_2 a0_3 a0_4 l0_5 l0_6 = some r1) :
    VCalls Tryz.prog 10 [.agg #[v0_0, v0_1, iv a0_2, iv a0_3, iv a0_4, v0_5, v0_6]] [.row v0_0 1 (l0_0.map enc_str), .row v0_1 2 (l0_1.map enc71), .row v0_5 1 (l0_5.map enc_str), .row v0_6 1 (l0_6.map enc_str)] (fun v G own => v = .bool r1 ∧ G = [] ∧ own = []) := by
  refine VCalls.intro Tryz.func10 rfl (len rfl) fun E hC hW hD hU => ?_
  unfold tarryref05_Right.f at h
  refine sr <| sG (o_box rfl (.agg (.f 0 rfl (.f 1 rfl (.c rfl (.c rfl (.c rfl (.f 2 rfl (.f 3 rfl .nil))))))))) fun g8981 => vs rfl <| nx <| va (op_fieldAddr FI27_0 rfl (add_at _ _ _)) <| va (op_load 0 2 rfl rfl TI25 rfl (fun h => absurd h (by decide))) <| ?_
  replace h := bd h
  obtain ⟨⟨r27203, r27204, t27205, t27206, t27207, r27208, r27209, t27210⟩, hA27211, h⟩ := h
  dsimp only at h
  refine sC (o_call0 FO32 (tarryref05_Open.ok k l0_0 l0_1 v0_0 v0_1 r27203 r27204 t27205 t27206 t27207 r27208 r27209 t27210 hA27211) rfl rfl (ltn rfl) (All_of (.cons (mG 0 rfl) (.cons (mG 1 rfl) .nil)))) <| ?_
  rintro _ _ _ ⟨v27213, v27215, v27217, v27219, rfl, rfl, rfl⟩
  refine sG (o_alloc Z59 ZL59) fun g27220 => s1 (o_store 0 8 rfl rfl rfl TI59 (.agg (.f 0 rfl (.f 1 rfl (.c rfl (.c rfl (.c rfl (.r 0 rfl (.r 1 rfl (.c rfl .nil))))))))) rfl (len rfl)) <| nx <| va (op_fieldAddr FI59_1 rfl (add_at _ _ _)) <| va (op_load 0 1 rfl rfl TI29 rfl (by decide)) <|
   VL.letter ((t27210 == 0)) fun b27451 hb27451 => va (op_cmp rfl rfl (congrArg some hb27451)) <| vm rfl <| ?_
  replace h := iC h
  rcases h with ⟨c27452, h⟩ | ⟨c27452, h⟩
  · obtain rfl : b27451 = true := hb27451.symm.trans (beq_iff_eq.2 c27452)
    refine va (op_fieldAddr FI59_0 rfl (add_at _ _ _)) <| va (op_fieldAddr FI27_1 rfl (add_at _ _ _)) <| va (op_load 0 1 rfl rfl TI3 rfl (by decide)) <| va (op_fieldAddr FI27_1 rfl (add_at _ _ _)) <| va (op_load 1 1 rfl rfl TI3 rfl (by decide)) <|
     VL.letter ((t27205 == a0_2)) fun b27453 hb27453 => va (op_cmp rfl rfl (congrArg some hb27453)) <| va (op_pick rfl rfl) <| vm rfl <| ?_
    replace h := iC h
    rcases h with ⟨c27454, h⟩ | ⟨c27454, h⟩
    · obtain rfl : b27453 = true := hb27453.symm.trans (beq_iff_eq.2 c27454)
      refine va (op_fieldAddr FI59_0 rfl (add_at _ _ _)) <| va (op_fieldAddr FI27_2 rfl (add_at _ _ _)) <| va (op_load 0 1 rfl rfl TI3 rfl (by decide)) <| va (op_fieldAddr FI27_2 rfl (add_at _ _ _)) <| va (op_load 1 1 rfl rfl TI3 rfl (by decide)) <|
       VL.letter ((t27206 == a0_3)) fun b27455 hb27455 => va (op_cmp rfl rfl (congrArg some hb27455)) <| va (op_pick rfl rfl) <| vm rfl <| ?_
      replace h := iC h
      rcases h with ⟨c27456, h⟩ | ⟨c27456, h⟩
      · obtain rfl : b27455 = true := hb27455.symm.trans (beq_iff_eq.2 c27456)
        refine va (op_fieldAddr FI59_0 rfl (add_at _ _ _)) <| va (op_fieldAddr FI27_3 rfl (add_at _ _ _)) <| va (op_load 0 1 rfl rfl TI3 rfl (by decide)) <| va (op_fieldAddr FI27_3 rfl (add_at _ _ _)) <| va (op_load 1 1 rfl rfl TI3 rfl (by decide)) <|
         VL.letter ((t27207 == a0_4)) fun b27457 hb27457 => va (op_cmp rfl rfl (congrArg some hb27457)) <| va (op_pick rfl rfl) <| vm rfl <| ?_
        replace h := iC h
        rcases h with ⟨c27458, h⟩ | ⟨c27458, h⟩
        · obtain rfl : b27457 = true := hb27457.symm.trans (beq_iff_eq.2 c27458)
          refine va (op_fieldAddr FI59_0 rfl (add_at _ _ _)) <| va (op_fieldAddr FI27_5 rfl (add_at _ _ _)) <| va (op_load 0 1 rfl rfl TI22 rfl (by decide)) <| va (op_fieldAddr FI27_5 rfl (add_at _ _ _)) <| va (op_load 1 1 rfl rfl TI22 rfl (by decide)) <| ?_
          replace h := bd h
          obtain ⟨t27459, hA27460, h⟩ := h
          refine sC (o_call_b0 FO33 (tarryref01_Same.ok k r27209 l0_6 v27219 v0_6 t27459 hA27460) rfl rfl (ltn rfl) (All_of (.cons (.inr (.inl ⟨_, mG 1 rfl, rfl⟩)) (.cons (.inl (mG 5 rfl)) .nil))) (by rintro _ _ _ ⟨rfl, rfl, rfl⟩; rfl)) <| ?_
          rintro _ _ _ ⟨rfl, rfl, rfl⟩
          refine va (op_pick rfl rfl) <| vm rfl <| ?_
          replace h := iC h
          rcases h with ⟨c27461, h⟩ | ⟨c27461, h⟩
          · obtain rfl := c27461
            refine va (op_load 1 7 rfl rfl TI27 rfl (fun h => absurd h (by decide))) <| va (op_fieldAddr FI27_4 rfl (add_at _ _ _)) <| va (op_load 1 1 rfl rfl TI22 rfl (by decide)) <| ?_
            replace h := bd h
            obtain ⟨t27462, hA27463, h⟩ := h
            refine sC (o_call0 FO12 (tarryref05_Waits.ok k l0_0 l0_1 a0_2 a0_3 a0_4 l0_5 l0_6 l0_5 v0_0 v0_1 v0_5 v0_6 v0_5 t27462 hA27463) rfl rfl (ltn rfl) (All_of (.cons (mG 2 rfl) (.cons (mG 3 rfl) (.cons (mG 4 rfl) (.cons (mG 5 rfl) (.cons (mG 4 rfl) .nil))))))) <| ?_
            rintro _ _ _ ⟨rfl, rfl, rfl⟩
            refine VL.letter ((t27462 == 0)) fun b27464 hb27464 => va (op_cmp rfl rfl (congrArg some hb27464)) <| va (op_pick rfl rfl) <| vs rfl <| dt <| VC.ret <| ?_
            obtain rfl := Option.some.inj h
            subst hb27464
            exact rq 2 rfl ⟨rfl, rfl, rfl⟩
          obtain rfl := Bool.eq_false_iff.2 c27461
          refine un rfl <| un rfl <| un rfl <| un rfl <| un rfl <| va (op_pick rfl rfl) <| vs rfl <| dt <| VC.ret <| ?_
          obtain rfl := Option.some.inj h
          exact rq 2 rfl ⟨rfl, rfl, rfl⟩
        obtain rfl : b27457 = false := hb27457.symm.trans (beq_eq_false_iff_ne.2 c27458)
        refine un rfl <| un rfl <| un rfl <| un rfl <| un rfl <| un rfl <| va (op_pick rfl rfl) <| vm rfl <| un rfl <| un rfl <| un rfl <| un rfl <| un rfl <| va (op_pick rfl rfl) <| vs rfl <| dt <| VC.ret <| ?_
        obtain rfl := Option.some.inj h
        exact rq 2 rfl ⟨rfl, rfl, rfl⟩
      obtain rfl : b27455 = false := hb27455.symm.trans (beq_eq_false_iff_ne.2 c27456)
      refine un rfl <| un rfl <| un rfl <| un rfl <| un rfl <| un rfl <| va (op_pick rfl rfl) <| vm rfl <| un rfl <| un rfl <| un rfl <| un rfl <| un rfl <| un rfl <| va (op_pick rfl rfl) <| vm rfl <| un rfl <| un rfl <| un rfl <| un rfl <| un rfl <| va (op_pick rfl rfl) <| vs rfl <| dt <| VC.ret <| ?_
      obtain rfl := Option.some.inj h
      exact rq 2 rfl ⟨rfl, rfl, rfl⟩
    obtain rfl : b27453 = false := hb27453.symm.trans (beq_eq_false_iff_ne.2 c27454)
    refine un rfl <| un rfl <| un rfl <| un rfl <| un rfl <| un rfl <| va (op_pick rfl rfl) <| vm rfl <| un rfl <| un rfl <| un rfl <| un rfl <| un rfl <| un rfl <| va (op_pick rfl rfl) <| vm rfl <| un rfl <| un rfl <| un rfl <| un rfl <| un rfl <| un rfl <| va (op_pick rfl rfl) <| vm rfl <| un rfl <|
     un rfl <| un rfl <| un rfl <| un rfl <| va (op_pick rfl rfl) <| vs rfl <| dt <| VC.ret <| ?_
    obtain rfl := Option.some.inj h
    exact rq 2 rfl ⟨rfl, rfl, rfl⟩
  obtain rfl : b27451 = false := hb27451.symm.trans (beq_eq_false_iff_ne.2 c27452)
  refine un rfl <| un rfl <| un rfl <| un rfl <| un rfl <| un rfl <| va (op_pick rfl rfl) <| vm rfl <| un rfl <| un rfl <| un rfl <| un rfl <| un rfl <| un rfl <| va (op_pick rfl rfl) <| vm rfl <| un rfl <| un rfl <| un rfl <| un rfl <| un rfl <| un rfl <| va (op_pick rfl rfl) <| vm rfl <| un rfl <|
   un rfl <| un rfl <| un rfl <| un rfl <| un rfl <| va (op_pick rfl rfl) <| vm rfl <| un rfl <| un rfl <| un rfl <| un rfl <| un rfl <| va (op_pick rfl rfl) <| vs rfl <| dt <| VC.ret <| ?_
  obtain rfl := Option.some.inj h
  exact rq 2 rfl ⟨rfl, rfl, rfl⟩

end Go.Proofs.YtipeglbeongfmaaGreat.PJournalSeals
