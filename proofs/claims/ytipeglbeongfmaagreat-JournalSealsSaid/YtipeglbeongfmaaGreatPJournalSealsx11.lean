/- Written by a program of this repo: what the program's functions do, each as a Lean function, shown of the loaded code; or a statement's row over that; no condition of its own. -/
import Derived.Test.YtipeglbeongfmaaGreatPJournalSealsx10
namespace Go.Proofs.YtipeglbeongfmaaGreat.PJournalSeals
open Go Go.RowKit Go.Proofs.YtipeglbeongfmaaGreatV
set_option linter.unusedVariables false
set_option linter.unusedSimpArgs false
set_option maxHeartbeats 4000000
set_option maxRecDepth 100000

theorem journal_compacts.ok (k : Nat) (l0_0 : List ByteArray) (l0_1 : List S71) (a0_2 : Int) (a0_3 : Int) (a0_4 : Int) (l0_5 : List ByteArray) (l0_6 : List ByteArray) (a1 : ByteArray) (v0_0 : Value) (v0_1 : Value) (v0_5 : Value) (v0_6 : Value) (r1 : Int) (h : journal_compacts.f k l0_0 l0_1 a0_2 a0_3 a0_4 l0_5 l0_6 a1 = some r1) :
    VCalls Tryz.prog 29 [.agg #[v0_0, v0_1, iv a0_2, iv a0_3, iv a0_4, v0_5, v0_6], .string a1] [.row v0_0 1 (l0_0.map enc_str), .row v0_1 2 (l0_1.map enc71), .row v0_5 1 (l0_5.map enc_str), .row v0_6 1 (l0_6.map enc_str)] (fun v G own => v = iv r1 ∧ G = [] ∧ own = []) := by
  refine VCalls.intro Tryz.func29 rfl (len rfl) fun E hC hW hD hU => ?_
  unfold journal_compacts.f at h
  refine sr <| sG (o_box rfl (.agg (.f 0 rfl (.f 1 rfl (.c rfl (.c rfl (.c rfl (.f 2 rfl (.f 3 rfl .nil))))))))) fun g8573 => vs rfl <| ds <| VC.block <| sr <| va (op_load 0 7 rfl rfl TI27 rfl (fun h => absurd h (by decide))) <| ?_
  replace h := bd h
  obtain ⟨t8595, hA8596, h⟩ := h
  refine sC (o_call0 FO24 (journal_Right.ok k l0_0 l0_1 a0_2 a0_3 a0_4 l0_5 l0_6 v0_0 v0_1 v0_5 v0_6 t8595 hA8596) rfl rfl (ltn rfl) (All_of (.cons (mG 0 rfl) (.cons (mG 1 rfl) (.cons (mG 2 rfl) (.cons (mG 3 rfl) .nil)))))) <| ?_
  rintro _ _ _ ⟨rfl, rfl, rfl⟩
  replace h := iC h
  rcases h with ⟨c8597, h⟩ | ⟨c8597, h⟩
  · obtain rfl := c8597
    refine va (op_not rfl rfl) <| vs rfl <| dt <| cf <| sr <| vm rfl <| va (op_lens Tryz.underlying9 rfl) <| VL.letter (decide ((a1.size : Int) > 3000)) fun b8598 hb8598 => va (op_cmp rfl rfl (congrArg some hb8598)) <| vs rfl <| dt <| ?_
    replace h := iC h
    rcases h with ⟨c8599, h⟩ | ⟨c8599, h⟩
    · cases lT c8599 hb8598
      refine ct <| sr <| vs rfl <| dt <| VC.ret <| VR.block <| VR.then <| ?_
      obtain rfl := Option.some.inj h
      exact rq 4 rfl ⟨rfl, rfl, rfl⟩
    cases lF c8599 hb8598
    refine cf <| ?_
    replace h := bd h
    obtain ⟨t8602, hA8603, h⟩ := h
    replace h := bd h
    obtain ⟨t8604, hA8605, h⟩ := h
    refine VC.letter (decide ((t8602.size : Int) > t8604)) fun b8606 hb8606 => ?_
    replace h := iC h
    rcases h with ⟨c8607, h⟩ | ⟨c8607, h⟩
    · cases lT c8607 hb8606
      refine VC.join0 (⟨29, [(4, iv 0), (13, .bool true)], [], [], []⟩) (True) ?_ ?_
      · refine dw ⟨0, [], [.row v0_0 1 (l0_0.map enc_str)], [(g8573, 27, [v0_0, v0_1, iv a0_2, iv a0_3, iv a0_4, v0_5, v0_6])], []⟩ 16 <| av 0 1 rfl (mv rfl) <| av 4 17 rfl (op_fieldAddr FI27_0 rfl (add_at _ _ _)) <| av 5 49 rfl (op_fieldAddr FI25_0 rfl (add_at _ _ _)) <|
         av 6 113 rfl (op_load 0 1 rfl rfl TI22 rfl (by decide)) <| av 7 241 rfl (op_len (m := l0_0.length) 0 lenm Tryz.underlying22 rfl rfl) <|
         aG 1 243 rfl (o_buildSlice (vals := [(0, .string a1)]) (cells := #[.string a1]) (es := List.map enc_str ([a1] : List ByteArray)) Tryz.underlying22 TI9 Z9 rfl (by decide) (by decide) (by kernel_rfl) (by kernel_rfl) rfl (flat_map enc_str_ok _)) fun v8601 => aC 2 247 rfl (o_call_b0 FO50 (journal_frames.ok k ([a1] : List ByteArray) v8601 t8602 hA8603) rfl rfl (ltn rfl) (All_of (.cons (.inr (.inl ⟨_, mG 0 rfl, rfl⟩)) .nil)) (by rintro _ _ _ ⟨rfl, rfl, rfl⟩; rfl)) <|
         ?_
        rintro _ _ _ ⟨rfl, rfl, rfl⟩
        refine ⟨⟨⟨⟨0, rfl⟩, trivial⟩, ⟨⟨0, rfl⟩, trivial⟩, trivial⟩, ?_⟩
        refine av 3 255 rfl (op_lens Tryz.underlying9 rfl) <| aC 8 511 rfl (o_call0 FO51 (journal_room.ok (l0_0.length : Int) t8604 hA8605) rfl rfl (ltn rfl) (All_of .nil)) <| ?_
        rintro _ _ _ ⟨rfl, rfl, rfl⟩
        refine ⟨⟨⟨⟨0, rfl⟩, trivial⟩, ⟨⟨0, rfl⟩, trivial⟩, trivial⟩, ?_⟩
        exact av 9 1023 rfl (op_cmp rfl rfl (congrArg some hb8606)) <| av 10 2047 rfl (mv rfl) <| au 11 4095 rfl rfl <| au 12 8191 rfl rfl <| au 13 16383 rfl rfl <| av 14 32767 rfl (op_pick rfl rfl) <| av 15 65535 rfl (ag rfl) <| ad <| VN.meet0 [] [] trivial
      intro _
      refine ct <| sr <| vs rfl <| dt <| VC.ret <| VR.block <| VR.then <| ?_
      obtain rfl := Option.some.inj h
      exact rq 4 rfl ⟨rfl, rfl, rfl⟩
    cases lF c8607 hb8606
    refine VC.letter ((a0_2 == 1099511627776)) fun b8608 hb8608 => VC.join0 (⟨29, [(4, iv 0), (13, .bool b8608)], [], [], []⟩) (True) ?_ ?_
    · refine dw ⟨0, [], [.row v0_0 1 (l0_0.map enc_str)], [(g8573, 27, [v0_0, v0_1, iv a0_2, iv a0_3, iv a0_4, v0_5, v0_6])], []⟩ 16 <| av 0 1 rfl (mv rfl) <| av 4 17 rfl (op_fieldAddr FI27_0 rfl (add_at _ _ _)) <| av 5 49 rfl (op_fieldAddr FI25_0 rfl (add_at _ _ _)) <|
       av 6 113 rfl (op_load 0 1 rfl rfl TI22 rfl (by decide)) <| av 7 241 rfl (op_len (m := l0_0.length) 0 lenm Tryz.underlying22 rfl rfl) <|
       aG 1 243 rfl (o_buildSlice (vals := [(0, .string a1)]) (cells := #[.string a1]) (es := List.map enc_str ([a1] : List ByteArray)) Tryz.underlying22 TI9 Z9 rfl (by decide) (by decide) (by kernel_rfl) (by kernel_rfl) rfl (flat_map enc_str_ok _)) fun v8601 => aC 2 247 rfl (o_call_b0 FO50 (journal_frames.ok k ([a1] : List ByteArray) v8601 t8602 hA8603) rfl rfl (ltn rfl) (All_of (.cons (.inr (.inl ⟨_, mG 0 rfl, rfl⟩)) .nil)) (by rintro _ _ _ ⟨rfl, rfl, rfl⟩; rfl)) <|
       ?_
      rintro _ _ _ ⟨rfl, rfl, rfl⟩
      refine ⟨⟨⟨⟨0, rfl⟩, trivial⟩, ⟨⟨0, rfl⟩, trivial⟩, trivial⟩, ?_⟩
      refine av 3 255 rfl (op_lens Tryz.underlying9 rfl) <| aC 8 511 rfl (o_call0 FO51 (journal_room.ok (l0_0.length : Int) t8604 hA8605) rfl rfl (ltn rfl) (All_of .nil)) <| ?_
      rintro _ _ _ ⟨rfl, rfl, rfl⟩
      refine ⟨⟨⟨⟨0, rfl⟩, trivial⟩, ⟨⟨0, rfl⟩, trivial⟩, trivial⟩, ?_⟩
      exact av 9 1023 rfl (op_cmp rfl rfl (congrArg some hb8606)) <| av 10 2047 rfl (mv rfl) <| av 11 4095 rfl (op_fieldAddr FI27_1 rfl (add_at _ _ _)) <| av 12 8191 rfl (op_load 0 1 rfl rfl TI3 rfl (by decide)) <| av 13 16383 rfl (op_cmp rfl rfl (congrArg some hb8608)) <|
       av 14 32767 rfl (op_pick rfl rfl) <| av 15 65535 rfl (ag rfl) <| ad <| VN.meet0 [] [] trivial
    intro _
    replace h := iC h
    rcases h with ⟨c8609, h⟩ | ⟨c8609, h⟩
    · obtain rfl : b8608 = true := hb8608.symm.trans (beq_iff_eq.2 c8609)
      refine ct <| sr <| vs rfl <| dt <| VC.ret <| VR.block <| VR.then <| ?_
      obtain rfl := Option.some.inj h
      exact rq 4 rfl ⟨rfl, rfl, rfl⟩
    obtain rfl : b8608 = false := hb8608.symm.trans (beq_eq_false_iff_ne.2 c8609)
    refine cf <| VC.skip <| VN.block <| tx <| vs rfl <| dt <| VC.ret <| ?_
    obtain rfl := Option.some.inj h
    exact rq 4 rfl ⟨rfl, rfl, rfl⟩
  obtain rfl := Bool.eq_false_iff.2 c8597
  refine va (op_not rfl rfl) <| vs rfl <| dt <| ct <| sr <| vs rfl <| dt <| VC.ret <| VR.block <| VR.then <| ?_
  obtain rfl := Option.some.inj h
  exact rq 4 rfl ⟨rfl, rfl, rfl⟩

theorem journal_other.ok (k : Nat) (l0_0 : List ByteArray) (l0_1 : List S71) (a0_2 : Int) (a0_3 : Int) (a0_4 : Int) (l0_5 : List ByteArray) (l0_6 : List ByteArray) (a1 : ByteArray) (v0_0 : Value) (v0_1 : Value) (v0_5 : Value) (v0_6 : Value) (r1 : Int) (r2 : Int) (r3 : ByteArray) (h : journal_other.f k l0_0 l0_1 a0_2 a0_3 a0_4 l0_5 l0_6 a1 = some (r1, r2, r3)) :
    VCalls Tryz.prog 30 [.agg #[v0_0, v0_1, iv a0_2, iv a0_3, iv a0_4, v0_5, v0_6], .string a1] [.row v0_0 1 (l0_0.map enc_str), .row v0_1 2 (l0_1.map enc71), .row v0_5 1 (l0_5.map enc_str), .row v0_6 1 (l0_6.map enc_str)] (fun v G own => v = .agg #[iv r1, iv r2, .string r3] ∧ G = [] ∧ own = []) := by
  refine VCalls.intro Tryz.func30 rfl (len rfl) fun E hC hW hD hU => ?_
  unfold journal_other.f at h
  refine sr <| sG (o_box rfl (.agg (.f 0 rfl (.f 1 rfl (.c rfl (.c rfl (.c rfl (.f 2 rfl (.f 3 rfl .nil))))))))) fun g8626 => sG (o_alloc Z53 ZL53) fun g8627 => dt <| ?_
  replace h := bd h
  obtain ⟨t8630, hA8631, h⟩ := h
  refine VC.join0 (⟨12, [(4, pt g8627 0)], [], [(g8627, 53, [iv (wrap64 (1 - a0_3)), iv 0, .string t8630])], []⟩) (True) ?_ ?_
  · refine dw ⟨0, [], [], [(g8626, 27, [v0_0, v0_1, iv a0_2, iv a0_3, iv a0_4, v0_5, v0_6])], []⟩ 8 <| av 0 1 rfl (op_fieldAddr FI27_2 rfl (add_at _ _ _)) <| av 1 3 rfl (op_load 0 1 rfl rfl TI3 rfl (by decide)) <| av 2 7 rfl (op_ari64 rfl rfl rfl) <| av 3 15 rfl (mv rfl) <|
     aG 4 31 rfl (o_buildSlice (vals := [(0, .string a1)]) (cells := #[.string a1]) (es := List.map enc_str ([a1] : List ByteArray)) Tryz.underlying22 TI9 Z9 rfl (by decide) (by decide) (by kernel_rfl) (by kernel_rfl) rfl (flat_map enc_str_ok _)) fun v8629 => aC 5 63 rfl (o_call_b0 FO50 (journal_frames.ok k ([a1] : List ByteArray) v8629 t8630 hA8631) rfl rfl (ltn rfl) (All_of (.cons (.inr (.inl ⟨_, mG 0 rfl, rfl⟩)) .nil)) (by rintro _ _ _ ⟨rfl, rfl, rfl⟩; rfl)) <|
     ?_
    rintro _ _ _ ⟨rfl, rfl, rfl⟩
    refine ⟨⟨trivial, ⟨⟨1, rfl⟩, trivial⟩, trivial⟩, ?_⟩
    exact av 6 127 rfl (op_build (vals := [(0, iv (wrap64 (1 - a0_3))), (1, iv 0), (2, .string t8630)]) (vcs := [(0, [iv (wrap64 (1 - a0_3))]), (1, [iv 0]), (2, [.string t8630])]) (cells := [iv (wrap64 (1 - a0_3)), iv 0, .string t8630]) SI53 rfl (.cons ⟨rfl, (.c rfl)⟩ (.cons ⟨rfl, (.c rfl)⟩ (.cons ⟨rfl, (.c rfl)⟩ .nil))) (by kernel_rfl)) <|
     aO 7 255 rfl (o_store 0 3 rfl rfl rfl TI53 (.agg (.of rfl)) rfl (len rfl)) <| ad <| VN.meet0 [0] [] trivial
  intro _
  refine VC.ret <| ?_
  simp only [Option.some.injEq, Prod.mk.injEq] at h
  obtain ⟨rfl, rfl, rfl⟩ := h
  exact rf [.cell 4 53] [] (.cell 0 rfl rfl TI53 (fun h => absurd h (by decide)) .nil) ⟨rfl, rfl, rfl⟩

theorem journal_Compact.ok (k : Nat) (l0_0 : List ByteArray) (l0_1 : List S71) (a0_2 : Int) (a0_3 : Int) (a0_4 : Int) (l0_5 : List ByteArray) (l0_6 : List ByteArray) (a1 : ByteArray) (v0_0 : Value) (v0_1 : Value) (v0_5 : Value) (v0_6 : Value) (r1 : List ByteArray) (r2 : List S71) (r3 : Int) (r4 : Int) (r5 : Int) (r6 : List ByteArray) (r7 : List ByteArray) (r8 : Int) (h : journal_Compact.f k l0_0 l0_1 a0_2 a0_3 a0_4 l0_5 l0_6 a1 = some (r1, r2, r3, r4, r5, r6, r7, r8)) :
    VCalls Tryz.prog 8 [.agg #[v0_0, v0_1, iv a0_2, iv a0_3, iv a0_4, v0_5, v0_6], .string a1] [.row v0_0 1 (l0_0.map enc_str), .row v0_1 2 (l0_1.map enc71), .row v0_5 1 (l0_5.map enc_str), .row v0_6 1 (l0_6.map enc_str)] (fun v G own => ∃ w0 w1 w5 w6 : Value, v = .tuple #[.agg #[w0, w1, iv r3, iv r4, iv r5, w5, w6], iv r8] ∧ G = [.row w0 1 (r1.map enc_str), .row w1 2 (r2.map enc71)] ∧ own = [(w5, 9, 1, r6.map enc_str), (w6, 9, 1, r7.map enc_str)]) := by
  refine VCalls.intro Tryz.func8 rfl (len rfl) fun E hC hW hD hU => ?_
  unfold journal_Compact.f at h
  refine sr <| sG (o_box rfl (.agg (.f 0 rfl (.f 1 rfl (.c rfl (.c rfl (.c rfl (.f 2 rfl (.f 3 rfl .nil))))))))) fun g8657 => sG (o_alloc Z27 ZL27) fun g8658 => vs rfl <| ds <| sr <| va (op_load 1 7 rfl rfl TI27 rfl (fun h => absurd h (by decide))) <| vm rfl <| ?_
  replace h := bd h
  obtain ⟨t8667, hA8668, h⟩ := h
  refine sC (o_call0 FO29 (journal_compacts.ok k l0_0 l0_1 a0_2 a0_3 a0_4 l0_5 l0_6 a1 v0_0 v0_1 v0_5 v0_6 t8667 hA8668) rfl rfl (ltn rfl) (All_of (.cons (mG 0 rfl) (.cons (mG 1 rfl) (.cons (mG 2 rfl) (.cons (mG 3 rfl) .nil)))))) <| ?_
  rintro _ _ _ ⟨rfl, rfl, rfl⟩
  refine vs rfl <| nx <| vm rfl <| VL.letter ((t8667 != 0)) fun b8669 hb8669 => va (op_cmp rfl rfl (congrArg some hb8669)) <| dt <| ?_
  replace h := iC h
  rcases h with ⟨c8670, h⟩ | ⟨c8670, h⟩
  · obtain rfl : b8669 = false := hb8669.symm.trans (bne_eq_false_iff_eq.2 c8670)
    refine cf <| sk <| ?_
    replace h := bd h
    obtain ⟨⟨t8671, t8672, t8673⟩, hA8674, h⟩ := h
    dsimp only at h
    replace h := bd h
    obtain ⟨⟨r8675, r8676, t8677, t8678, t8679, r8680, r8681, t8682⟩, hA8683, h⟩ := h
    dsimp only at h
    refine VC.join4 (fun (v8685 : Value) (v8687 : Value) (v8689 : Value) (v8691 : Value) => ⟨21, [(4, pt g8658 0), (5, iv t8682)], [.row v8685 1 (r8675.map enc_str), .row v8687 2 (r8676.map enc71)], [(g8658, 27, [v8685, v8687, iv t8677, iv t8678, iv t8679, v8689, v8691])], [(v8689, 9, 1, r8680.map enc_str), (v8691, 9, 1, r8681.map enc_str)]⟩) (fun (v8685 : Value) (v8687 : Value) (v8689 : Value) (v8691 : Value) => True) ?_ ?_
    · refine dw ⟨0, [], [], [(g8657, 27, [v0_0, v0_1, iv a0_2, iv a0_3, iv a0_4, v0_5, v0_6])], []⟩ 9 <| av 0 1 rfl (op_load 0 7 rfl rfl TI27 rfl (fun h => absurd h (by decide))) <| av 1 3 rfl (mv rfl) <| av 3 11 rfl (op_load 0 7 rfl rfl TI27 rfl (fun h => absurd h (by decide))) <|
       aC 2 15 rfl (o_call0 FO30 (journal_other.ok k l0_0 l0_1 a0_2 a0_3 a0_4 l0_5 l0_6 a1 v0_0 v0_1 v0_5 v0_6 t8671 t8672 t8673 hA8674) rfl rfl (ltn rfl) (All_of (.cons (mG 0 rfl) (.cons (mG 1 rfl) (.cons (mG 2 rfl) (.cons (mG 3 rfl) .nil)))))) <| ?_
      rintro _ _ _ ⟨rfl, rfl, rfl⟩
      refine ⟨⟨trivial, ⟨⟨1, rfl⟩, trivial⟩, trivial⟩, ?_⟩
      refine aC 4 31 rfl (o_call0 FO28 (journal_plan_sealed.ok k t8671 t8672 t8673 l0_0 l0_1 a0_2 a0_3 a0_4 l0_5 l0_6 v0_0 v0_1 v0_5 v0_6 r8675 r8676 t8677 t8678 t8679 r8680 r8681 t8682 hA8683) rfl rfl (ltn rfl) (All_of (.cons (mG 0 rfl) (.cons (mG 1 rfl) (.cons (mG 2 rfl) (.cons (mG 3 rfl) .nil)))))) <|
       ?_
      rintro _ _ _ ⟨v8685, v8687, v8689, v8691, rfl, rfl, rfl⟩
      refine ⟨⟨trivial, ⟨⟨1, rfl⟩, trivial⟩, trivial⟩, ?_⟩
      exact VA.more ⟨0, [], [.row v8685 1 (r8675.map enc_str), .row v8687 2 (r8676.map enc71)], [(g8657, 27, [v0_0, v0_1, iv a0_2, iv a0_3, iv a0_4, v0_5, v0_6])], [(v8689, 9, 1, r8680.map enc_str), (v8691, 9, 1, r8681.map enc_str)]⟩ ⟨trivial, ⟨⟨0, rfl⟩, trivial⟩, trivial⟩ <|
       av 5 63 rfl (op_extract rfl rfl) <| av 6 127 rfl (op_extract rfl rfl) <| aO 7 255 rfl (o_store 0 7 rfl rfl rfl TI27 (.agg (.f 0 rfl (.f 1 rfl (.c rfl (.c rfl (.c rfl (.r 0 rfl (.r 1 rfl .nil)))))))) rfl (len rfl)) <| av 8 511 rfl (ag rfl) <| ad <| VN.meet4 v8685 v8687 v8689 v8691 [0] [0, 1] trivial
    intro v8685 v8687 v8689 v8691 _
    refine VC.ret <| ?_
    simp only [Option.some.injEq, Prod.mk.injEq] at h
    obtain ⟨rfl, rfl, rfl, rfl, rfl, rfl, rfl, rfl⟩ := h
    exact rf [.cell 4 27, .tmp 5] [0, 1] (.cell 0 rfl rfl TI27 (fun h => absurd h (by decide)) (.tmp rfl .nil)) ⟨v8685, v8687, v8689, v8691, rfl, rfl, rfl⟩
  obtain rfl : b8669 = true := hb8669.symm.trans (bne_iff_ne.2 c8670)
  refine ct <| sr <| va (op_build (vals := []) (vcs := []) (cells := [sn, sn, iv 0, iv 0, iv 0, sn, sn]) SI27 rfl .nil (by kernel_rfl)) <| vm rfl <| s1 (o_store 0 7 rfl rfl rfl TI27 (.agg (.of rfl)) rfl (len rfl)) <| vs rfl <|
   dt <| VC.ret <| VR.then <| ?_
  simp only [Option.some.injEq, Prod.mk.injEq] at h
  obtain ⟨rfl, rfl, rfl, rfl, rfl, rfl, rfl, rfl⟩ := h
  exact VR.nilFact' 1 <| VR.nilFact' 2 <| VR.nilRow' 9 1 <| VR.nilRow' 9 1 <| rf [.cell 4 27, .tmp 5] [1, 0] (.cell 0 rfl rfl TI27 (fun h => absurd h (by decide)) (.tmp rfl .nil)) ⟨sn, sn, sn, sn, rfl, rfl, rfl⟩

def lay_82_ren : Go.Shelf.Ren := ⟨fun | 212 => 82 | 263 => 96 | 264 => 97 | n => n, fun | 46 => 117 | 51 => 64 | 146 => 133 | 53 => 42 | 148 => 135 | n => n, fun | n => n⟩
theorem lay_82 : Go.Proofs.Lays.n212 Tryz.prog lay_82_ren where
  mixed := by kernel_rfl
  f212 := Tryz.func82.trans (congrArg some (by kernel_rfl))
  f263 := Tryz.func96.trans (congrArg some (by kernel_rfl))
  f264 := Tryz.func97.trans (congrArg some (by kernel_rfl))
  t46 := Tryz.underlying117
  a46 := Tryz.isAgg117
  z46 := Tryz.sizeOf117
  v46 := Tryz.zeroValue117
  t51 := Tryz.underlying64
  a51 := Tryz.isAgg64
  z51 := Tryz.sizeOf64
  v51 := Tryz.zeroValue64
  t53 := Tryz.underlying42
  a53 := Tryz.isAgg42
  z53 := Tryz.sizeOf42
  v53 := Tryz.zeroValue42
  t146 := Tryz.underlying133
  a146 := Tryz.isAgg133
  z146 := Tryz.sizeOf133
  v146 := Tryz.zeroValue133
  t148 := Tryz.underlying135
  a148 := Tryz.isAgg135
  z148 := Tryz.sizeOf135
  v148 := Tryz.zeroValue135
theorem slices_Repeat_string_string.mul (x y : Nat) (hx : x * y < 18446744073709551616) (hx1 : x < 18446744073709551616) (hy : y < 18446744073709551616) : VCalls Tryz.prog 82 [.int .u64 x, .int .u64 y] [] (fun v G own => v = .tuple [.int .u64 0, .int .u64 ((x * y : Nat) : Int)].toArray ∧ G = [] ∧ own = []) := by
  refine VCalls.of fun w => (Go.Proofs.Any.bits_Mul lay_82 x y hx1 hy w).mono ?_
  rintro e w' ⟨he, hw⟩
  rw [Nat.div_eq_of_lt hx, Nat.mod_eq_of_lt hx] at he
  exact ⟨he, hw ▸ Below.refl _ _⟩
theorem slices_Repeat_string_string.ok (l0 : List ByteArray) (a1 : Int) (v0 : Value) (r1 : List ByteArray) (h : slices_Repeat_string_string.f l0 a1 = some r1) :
    VCalls Tryz.prog 75 [v0, iv a1] [.row v0 1 (l0.map enc_str)] (fun v G own => ∃ w0 : Value, v = w0 ∧ G = [] ∧ own = [(w0, 9, 1, r1.map enc_str)]) := by
  unfold slices_Repeat_string_string.f at h
  by_cases hc : ¬ (0 < l0.length ∧ 0 < a1 ∧ l0.length * a1.toNat * 16 ≤ 140737488355328)
  · rw [if_neg hc] at h; cases h
  replace hc := Decidable.not_not.1 hc
  rw [if_pos hc] at h
  obtain rfl := Option.some.inj h
  clear h
  obtain ⟨hl0, ha1, hbig⟩ := hc
  obtain ⟨n, rfl⟩ : ∃ n : Nat, a1 = (n : Int) := ⟨a1.toNat, by omega⟩
  have hn0 : 0 < n := by omega
  clear ha1
  simp only [Int.toNat_natCast] at hbig ⊢
  obtain ⟨N, hN⟩ : ∃ N, l0.length * n = N := ⟨_, rfl⟩
  have hNp : 0 < N := by rw [← hN]; exact Nat.mul_pos hl0 hn0
  have hpN : l0.length ≤ N := by rw [← hN]; exact Nat.le_mul_of_pos_right _ hn0
  have hnN : n ≤ N := by rw [← hN]; exact Nat.le_mul_of_pos_left _ hl0
  rw [hN] at hbig
  have hNs : N ≤ 140737488355328 := by omega
  have hRl : (repl l0 n).length = N := by rw [repl_len, hN]
  have hRf : flatOk 1 ((repl l0 n).map enc_str) := flat_map enc_str_ok _
  have hLf : flatOk 1 (l0.map enc_str) := flat_map enc_str_ok _
  have hsh : ∀ j m, l0.length ∣ j → j + m ≤ N → (((repl l0 n).map enc_str).flatten.drop (j * 1)).take (m * 1) = ((repl l0 n).map enc_str).flatten.take (m * 1) := by
    rintro j m ⟨q, rfl⟩ hjm
    have hq : q ≤ n := by
      rcases Nat.lt_or_ge n q with h | h
      · have := Nat.mul_lt_mul_of_pos_left h hl0
        omega
      · exact h
    have e := repl_shift l0 n q hq
    rw [← flat_drop _ hRf, ← List.map_drop, e, List.map_take, flat_take _ hRf, List.take_take, Nat.min_eq_left (Nat.mul_le_mul_right _ (by omega))]
  have hRF : ((repl l0 n).map enc_str).flatten.length = N * 1 := by rw [flat_len hRf, lenm, hRl]
  have hR1 : ((repl l0 n).map enc_str).flatten.take (l0.length * 1) = (l0.map enc_str).flatten := by
    obtain ⟨k, rfl⟩ : ∃ k, n = k + 1 := ⟨n - 1, by omega⟩
    rw [repl, List.map_append, List.flatten_append, ← lenm (f := enc_str) (xs := l0), ← flat_len hLf, List.take_left]
  have hone : ∀ k, ∀ u ∈ ((repl l0 n).map enc_str).flatten.take k, u.oneCell' = true := fun k u hu => flat_one hRf u (List.mem_of_mem_take hu)
  generalize hRR : ((repl l0 n).map enc_str).flatten = R at *
  refine VCalls.intro Tryz.func75 rfl (len rfl) fun E hC hW hD hU => ?_
  refine VC.formF 0 rfl fun A cap hv h1 h2 h3 => ?_
  rw [lenm] at hv h1 h3
  subst hv
  cases A with
  | none => exact absurd (h3 rfl) (by omega)
  | some ad =>
  clear h3
  refine VC.seq (VC.region ?_)
  refine VL.va (op_assign rfl (ltn rfl)) rfl ?_
  refine VL.done (VN.then ?_)
  refine VC.seq ?_
  refine VC.seq (VC.region ?_)
  refine VL.va (op_move rfl (ltn rfl)) rfl ?_
  refine VL.letter (decide ((n : Int) < 0)) fun b1 hb1 => ?_
  refine VL.va (op_cmp rfl rfl (congrArg some hb1) (ltn rfl)) rfl ?_
  refine VL.done (VN.then ?_)
  obtain rfl : b1 = false := hb1.symm.trans (decide_eq_false (by omega))
  clear hb1
  refine VC.cond_f rfl (VC.skip (VN.then ?_))
  refine VC.seq (VC.region ?_)
  refine VL.va (op_move rfl (ltn rfl)) rfl ?_
  refine VL.va (op_len (m := l0.length) 0 lenm Tryz.underlying22 rfl rfl (ltn rfl)) rfl ?_
  refine VL.va (op_conv (q := (l0.length : Int)) Tryz.underlying3 Tryz.underlying117 rfl (by rw [IntKind.wrap_u64]; omega) (ltn rfl)) rfl ?_
  refine VL.va (op_move rfl (ltn rfl)) rfl ?_
  refine VL.va (op_conv (q := (n : Int)) Tryz.underlying3 Tryz.underlying117 rfl (by rw [IntKind.wrap_u64]; omega) (ltn rfl)) rfl ?_
  refine VL.sC (o_call0 FO82 (slices_Repeat_string_string.mul l0.length n (by rw [hN]; omega) (by omega) (by omega)) rfl rfl (ltn rfl) (All_of .nil)) rfl ?_
  rintro _ _ _ ⟨rfl, rfl, rfl⟩
  rw [hN]
  refine VL.va (op_move rfl (ltn rfl)) rfl ?_
  refine VL.va (op_extract rfl rfl (ltn rfl)) rfl ?_
  refine VL.va (op_extract rfl rfl (ltn rfl)) rfl ?_
  refine VL.va (op_assign rfl (ltn rfl)) rfl ?_
  refine VL.va (op_assign rfl (ltn rfl)) rfl ?_
  refine VL.done (VN.then ?_)
  refine VC.seq ?_
  refine VC.seq (VC.region ?_)
  refine VL.va (op_move rfl (ltn rfl)) rfl ?_
  refine VL.va (op_cmp (b := false) rfl rfl rfl (ltn rfl)) rfl ?_
  refine VL.va (op_move rfl (ltn rfl)) rfl ?_
  refine VL.va (op_move rfl (ltn rfl)) rfl ?_
  refine VL.letter (decide ((N : Int) > 9223372036854775807)) fun b2 hb2 => ?_
  refine VL.va (op_cmp rfl rfl (congrArg some hb2) (ltn rfl)) rfl ?_
  refine VL.va (op_pick rfl rfl (ltn rfl)) rfl ?_
  refine VL.done (VN.then ?_)
  obtain rfl : b2 = false := hb2.symm.trans (decide_eq_false (by omega))
  clear hb2
  refine VC.cond_f rfl (VC.skip (VN.then ?_))
  refine VC.seq (VC.region ?_)
  refine VL.va (op_move rfl (ltn rfl)) rfl ?_
  refine VL.va (op_conv (q := (N : Int)) Tryz.underlying117 Tryz.underlying3 rfl (by rw [IntKind.wrap_i64]; omega) (ltn rfl)) rfl ?_
  refine o_makeSlice Tryz.underlying22 EI9 rfl rfl hbig (ltn rfl) rfl fun g cur hcur => ?_
  refine VL.va (op_assign rfl (ltn rfl)) rfl ?_
  refine VL.done (VN.then ?_)
  refine VC.seq (VC.region ?_)
  refine VL.va (op_move rfl (ltn rfl)) rfl ?_
  refine VL.va (op_move rfl (ltn rfl)) rfl ?_
  have hLl : (l0.map enc_str).flatten.length = l0.length * 1 := by rw [flat_len hLf, lenm]
  refine VL.step1 (o_copy (m := l0.length) (cs := (l0.map enc_str).flatten) 0 Tryz.underlying22 TI9 rfl rfl rfl (Nat.min_eq_left hpN) hLl (by rw [hLl, hcur, Nat.zero_add]; exact Nat.mul_le_mul_right _ hpN) (src_row 0 rfl) (flat_one hLf) rfl (ltn rfl)) rfl ?_
  refine VL.va (op_assign rfl (ltn rfl)) rfl ?_
  refine VL.done (VN.then ?_)
  have hc1 : (upd cur 0 (l0.map enc_str).flatten).length = N * 1 := by rw [upd_len, hcur]; rw [hLl, hcur, Nat.zero_add]; exact Nat.mul_le_mul_right _ hpN
  have hc2 : (upd cur 0 (l0.map enc_str).flatten).take (l0.length * 1) = R.take (l0.length * 1) := by
    rw [hR1, upd, List.take_zero, List.nil_append, ← hLl, List.take_left]
  generalize upd cur 0 (l0.map enc_str).flatten = cur1 at hc1 hc2 ⊢
  clear hcur
  refine VC.seq (VC.block ?_)
  refine VC.loop2 (fun (j : Nat) (cs : List Value) => ⟨48, [(7, .slice (some ⟨g, 0, none⟩) N N), (8, iv j)], [.row (.slice (some ad) l0.length cap) 1 (l0.map enc_str)], [(g, 9, cs)], []⟩)
    (fun k j cs => N < k + j ∧ 0 < j ∧ j ≤ N ∧ cs.length = N * 1 ∧ cs.take (j * 1) = R.take (j * 1) ∧ (l0.length ∣ j ∨ j = N))
    (N + 1) l0.length cur1 [0] [] ⟨by omega, hl0, hpN, hc1, hc2, .inl (Nat.dvd_refl _)⟩ ⟨rfl, ⟨rfl, rfl, trivial⟩, SubF.of (fun _ h => h), rfl, by decide, rfl, by decide⟩ (by rintro j cs ⟨h, _, h2, _⟩; omega) ?_
  clear hc1 hc2 cur1
  rintro k ih j cs ⟨hk, hj0, hjN, hcl, hct, hdv⟩
  refine VC.seq ?_
  refine VC.seq (VC.region ?_)
  refine VL.va (op_move rfl (ltn rfl)) rfl ?_
  refine VL.va (op_move rfl (ltn rfl)) rfl ?_
  refine VL.va (op_lenV Tryz.underlying22 rfl (ltn rfl)) rfl ?_
  refine VL.letter (decide ((j : Int) < (N : Int))) fun b3 hb3 => ?_
  refine VL.va (op_cmp rfl rfl (congrArg some hb3) (ltn rfl)) rfl ?_
  refine VL.done (VN.then ?_)
  by_cases c3 : j < N
  · obtain rfl : b3 = true := hb3.symm.trans (decide_eq_true (by omega))
    clear hb3
    refine VC.cond_t rfl (VC.skip (VN.then ?_))
    have hdv2 := hdv.resolve_right (by omega)
    obtain ⟨m, hm⟩ : ∃ m, min j (N - j) = m := ⟨_, rfl⟩
    have hm1 : m ≤ j := by omega
    have hm2 : m ≤ N - j := by omega
    have hm0 : 0 < m := by omega
    have hjm : j * 1 + m * 1 ≤ N * 1 := by rw [← Nat.add_mul]; exact Nat.mul_le_mul_right _ (by omega)
    have hmj : m * 1 ≤ j * 1 := Nat.mul_le_mul_right _ hm1
    have hcs : (cs.drop 0).take (m * 1) = R.take (m * 1) := by
      have := congrArg (List.take (m * 1)) hct
      rw [List.take_take, List.take_take, Nat.min_eq_left hmj] at this
      rw [List.drop_zero]
      exact this
    have hcsl : (R.take (m * 1)).length = m * 1 := by rw [List.length_take, hRF]; omega
    refine VC.block ?_
    refine VC.draw ⟨0, [], [], [], []⟩ (by kernel_rfl) rfl (by kernel_rfl) (n := 10) (listed := LB 10 0) ?_
    refine VA.va (i := 0) (listed' := LB 10 1) rfl (op_move rfl (ltn rfl)) rfl (by kernel_rfl) (by kernel_rfl) (by kernel_rfl) (by kernel_rfl) ⟨trivial, trivial, trivial⟩ (fun _ _ _ h => h) ?_
    refine VA.va (i := 1) (listed' := LB 10 3) rfl (op_move rfl (ltn rfl)) rfl (by kernel_rfl) (by kernel_rfl) (by kernel_rfl) (by kernel_rfl) ⟨trivial, trivial, trivial⟩ (fun _ _ _ h => h) ?_
    refine VA.va (i := 2) (listed' := LB 10 7) rfl (op_move rfl (ltn rfl)) rfl (by kernel_rfl) (by kernel_rfl) (by kernel_rfl) (by kernel_rfl) ⟨trivial, trivial, trivial⟩ (fun _ _ _ h => h) ?_
    refine VA.va (i := 3) (listed' := LB 10 15) rfl (op_cutV' j N (cutV_at0 (.inl c3)) Tryz.underlying22 TI9 rfl ⟨⟨_, _, rfl, Int.natCast_nonneg j, Int.toNat_natCast _⟩, rfl, by omega, Nat.le_refl _⟩ (Nat.le_refl _) (ltn rfl)) rfl (by kernel_rfl) (by kernel_rfl) (by kernel_rfl) (by kernel_rfl) ⟨trivial, trivial, trivial⟩ (fun _ _ _ h => h) ?_
    refine VA.va (i := 4) (listed' := LB 10 31) rfl (op_move rfl (ltn rfl)) rfl (by kernel_rfl) (by kernel_rfl) (by kernel_rfl) (by kernel_rfl) ⟨trivial, trivial, trivial⟩ (fun _ _ _ h => h) ?_
    refine VA.va (i := 5) (listed' := LB 10 63) rfl (op_move rfl (ltn rfl)) rfl (by kernel_rfl) (by kernel_rfl) (by kernel_rfl) (by kernel_rfl) ⟨trivial, trivial, trivial⟩ (fun _ _ _ h => h) ?_
    refine VA.va (i := 6) (listed' := LB 10 127) rfl (op_cutH' 0 j (v := .slice (some ⟨g, 0, none⟩) j N) (by rw [cutV_at0 (.inr rfl)]; simp) Tryz.underlying22 TI9 rfl ⟨rfl, ⟨_, _, rfl, Int.natCast_nonneg j, Int.toNat_natCast j⟩, Nat.zero_le _, by omega⟩ (ltn rfl)) rfl (by kernel_rfl) (by kernel_rfl) (by kernel_rfl) (by kernel_rfl) ⟨trivial, trivial, trivial⟩ (fun _ _ _ h => h) ?_
    refine VA.one1 (i := 7) (listed' := LB 10 255) (by kernel_rfl) rfl (o_copy (m := m) (cs := R.take (m * 1)) 0 Tryz.underlying22 TI9 rfl rfl rfl hm hcsl (by rw [hcsl, hcl]; exact hjm) (src_box (m * 1) 0 rfl hcs.symm) (hone _) rfl (ltn rfl)) rfl (by kernel_rfl) ⟨trivial, trivial, trivial⟩ ?_
    refine VA.va (i := 8) (listed' := LB 10 511) rfl (op_ari64 (q := ((j + m : Nat) : Int)) rfl rfl (congrArg some (by show wrap64 ((j : Int) + (m : Int)) = _; exact w64 (by omega) (by omega))) (ltn rfl)) rfl (by kernel_rfl) (by kernel_rfl) (by kernel_rfl) (by kernel_rfl) ⟨trivial, trivial, trivial⟩ (fun _ _ _ h => h) ?_
    refine VA.va (i := 9) (listed' := LB 10 1023) rfl (op_assign rfl (ltn rfl)) rfl (by kernel_rfl) (by kernel_rfl) (by kernel_rfl) (by kernel_rfl) ⟨trivial, trivial, trivial⟩ (fun _ _ _ h => h) ?_
    refine VA.done (by kernel_rfl) (VN.block ?_)
    refine VN.again [0] [] (ih (j + m) (upd cs (j * 1) (R.take (m * 1))) ⟨by omega, by omega, by omega, ?_, ?_, ?_⟩) ⟨rfl, ⟨rfl, rfl, trivial⟩, SubF.of (fun _ h => h), rfl, by decide, rfl, by decide⟩
    · rw [upd_len, hcl]
      rw [hcsl, hcl]
      exact hjm
    · have h1 : (R.take (j * 1)).length = j * 1 := by rw [List.length_take, hRF]; omega
      have h2 : (R.take (j * 1) ++ R.take (m * 1)).length = (j + m) * 1 := by rw [List.length_append, h1, hcsl, Nat.add_mul]
      unfold upd
      rw [hct, ← h2, List.take_left, h2, Nat.add_mul, List.take_add, hsh j m hdv2 (by omega)]
    · rcases Nat.lt_or_ge (N - j) j with h | h
      · exact .inr (by omega)
      · have : m = j := by omega
        subst this
        exact .inl (by obtain ⟨q, hq⟩ := hdv2; exact ⟨q + q, by rw [Nat.mul_add, ← hq]⟩)
  obtain rfl : b3 = false := hb3.symm.trans (decide_eq_false (by omega))
  clear hb3
  obtain rfl : j = N := by omega
  refine VC.cond_f rfl ?_
  refine VC.exit (VX.then (VX.then (VX.hit (VN.then ?_))))
  refine VC.seq (VC.region ?_)
  refine VL.va (op_move rfl (ltn rfl)) rfl ?_
  refine VL.va (op_assign rfl (ltn rfl)) rfl ?_
  refine VL.done (VN.then ?_)
  refine VC.ret ?_
  refine VR.closeBox 0 j 1 ((repl l0 n).map enc_str) rfl (by rw [lenm, hRl]; exact Nat.le_refl _) (by simp only [maxLen]; omega) hcl ?_ hRf ?_
  · rw [lenm, hRl, hct, hRR, ← hRF, List.take_length]
  rw [lenm, hRl]
  exact VR.fn (rs := [.tmp 4]) [] [(.slice (some ⟨g, 0, none⟩) j j, 9, 1, (repl l0 n).map enc_str)] [0] rfl (.tmp rfl .nil) ⟨_, rfl, rfl, rfl⟩ trivial rfl (by decide)

theorem disk_New.ok (a0 : Int)  (r1 : List ByteArray) (r2 : List S71) (r3 : Int) (h : disk_New.f a0 = some (r1, r2, r3)) :
    VCalls Tryz.prog 53 [iv a0] [] (fun v G own => ∃ w0 w1 : Value, v = .tuple #[.agg #[w0, w1], iv r3] ∧ G = [] ∧ own = [(w0, 9, 1, r1.map enc_str), (w1, 72, 2, r2.map enc71)]) := by
  refine VCalls.intro Tryz.func53 rfl (len rfl) fun E hC hW hD hU => ?_
  unfold disk_New.f at h
  refine sr <| sG (o_alloc Z25 ZL25) fun g8728 => vs rfl <| ds <| sr <| vm rfl <| VL.letter (decide (a0 < 1)) fun b8743 hb8743 => va (op_cmp rfl rfl (congrArg some hb8743)) <| vm rfl <| ?_
  replace h := iC h
  rcases h with ⟨c8744, h⟩ | ⟨c8744, h⟩
  · cases lT c8744 hb8743
    refine un rfl <| un rfl <| va (op_pick rfl rfl) <| dt <| ct <| sr <| va (op_build (vals := []) (vcs := []) (cells := [sn, sn]) SI25 rfl .nil (by kernel_rfl)) <| s1 (o_store 0 2 rfl rfl rfl TI25 (.agg (.of rfl)) rfl (len rfl)) <| vs rfl <| dt <| VC.ret <| VR.then <| ?_
    simp only [Option.some.injEq, Prod.mk.injEq] at h
    obtain ⟨rfl, rfl, rfl⟩ := h
    exact VR.nilRow' 9 1 <| VR.nilRow' 72 2 <| rf [.cell 2 25, .tmp 3] [1, 0] (.cell 0 rfl rfl TI25 (fun h => absurd h (by decide)) (.tmp rfl .nil)) ⟨sn, sn, rfl, rfl, rfl⟩
  cases lF c8744 hb8743
  refine vm rfl <| VL.letter (decide (a0 > 512)) fun b8747 hb8747 => va (op_cmp rfl rfl (congrArg some hb8747)) <| va (op_pick rfl rfl) <| dt <| ?_
  replace h := iC h
  rcases h with ⟨c8748, h⟩ | ⟨c8748, h⟩
  · cases lT c8748 hb8747
    refine ct <| sr <| va (op_build (vals := []) (vcs := []) (cells := [sn, sn]) SI25 rfl .nil (by kernel_rfl)) <| s1 (o_store 0 2 rfl rfl rfl TI25 (.agg (.of rfl)) rfl (len rfl)) <| vs rfl <| dt <| VC.ret <| VR.then <| ?_
    simp only [Option.some.injEq, Prod.mk.injEq] at h
    obtain ⟨rfl, rfl, rfl⟩ := h
    exact VR.nilRow' 9 1 <| VR.nilRow' 72 2 <| rf [.cell 2 25, .tmp 3] [1, 0] (.cell 0 rfl rfl TI25 (fun h => absurd h (by decide)) (.tmp rfl .nil)) ⟨sn, sn, rfl, rfl, rfl⟩
  cases lF c8748 hb8747
  refine cf <| sk <| sr <| ?_
  replace h := bd h
  obtain ⟨r8751, hA8752, h⟩ := h
  refine sC (o_call0 FO63 (strings_Repeat.ok (⟨#[0]⟩ : ByteArray) 64 r8751 hA8752) rfl rfl (ltn rfl) (All_of .nil)) <| ?_
  rintro _ _ _ ⟨rfl, rfl, rfl⟩
  refine sG (o_buildSlice (vals := [(0, .string r8751)]) (cells := #[.string r8751]) (es := List.map enc_str ([r8751] : List ByteArray)) Tryz.underlying22 TI9 Z9 rfl (by decide) (by decide) (by kernel_rfl) (by kernel_rfl) rfl (flat_map enc_str_ok _)) fun v8754 => vm rfl <| ?_
  replace h := bd h
  obtain ⟨r8755, hA8756, h⟩ := h
  refine sC (o_call_b0 FO75 (slices_Repeat_string_string.ok ([r8751] : List ByteArray) a0 v8754 r8755 hA8756) rfl rfl (ltn rfl) (All_of (.cons (.inr (.inl ⟨_, mG 0 rfl, rfl⟩)) .nil)) (by rintro _ _ _ ⟨_, rfl, rfl, rfl⟩; rfl)) <| ?_
  rintro v8758 _ _ ⟨_, rfl, rfl, rfl⟩
  refine va (op_build (vals := [(0, v8758)]) (vcs := [(0, [v8758])]) (cells := [v8758, sn]) SI25 rfl (.cons ⟨rfl, (.r 0 rfl)⟩ .nil) (by kernel_rfl)) <| s1 (o_store 0 2 rfl rfl rfl TI25 (.agg (.r 0 rfl (.c rfl .nil))) rfl (len rfl)) <| vs rfl <| dt <| VC.ret <| ?_
  simp only [Option.some.injEq, Prod.mk.injEq] at h
  obtain ⟨rfl, rfl, rfl⟩ := h
  exact VR.nilRow' 72 2 <| rf [.cell 2 25, .tmp 3] [1, 0] (.cell 0 rfl rfl TI25 (fun h => absurd h (by decide)) (.tmp rfl .nil)) ⟨v8758, sn, rfl, rfl, rfl⟩

end Go.Proofs.YtipeglbeongfmaaGreat.PJournalSeals
