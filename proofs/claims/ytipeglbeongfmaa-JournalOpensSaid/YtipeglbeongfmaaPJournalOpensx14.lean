/- Written by a program of this repo: what the program's functions do, each as a Lean function, shown of the loaded code; or a statement's row over that; no condition of its own. -/
import Derived.Test.YtipeglbeongfmaaPJournalOpensx13
namespace Go.Proofs.Ytipeglbeongfmaa.PJournalOpens
open Go Go.RowKit Go.Proofs.YtipeglbeongfmaaV
set_option linter.unusedVariables false
set_option linter.unusedSimpArgs false
set_option maxHeartbeats 4000000
set_option maxRecDepth 100000

theorem journal_Right.ok (k : Nat) (l0_0 : List ByteArray) (l0_1 : List S55) (a0_2 : Int) (a0_3 : Int) (a0_4 : Int) (l0_5 : List ByteArray) (l0_6 : List ByteArray) (v0_0 : Value) (v0_1 : Value) (v0_5 : Value) (v0_6 : Value) (r1 : Bool) (h : journal_Right.f k l0_0 l0_1 a0_2 a0_3 a0_4 l0_5 l0_6 = some r1) :
    VCalls Try.prog 12 [.agg #[v0_0, v0_1, iv a0_2, iv a0_3, iv a0_4, v0_5, v0_6]] [.row v0_0 1 (l0_0.map enc_str), .row v0_1 2 (l0_1.map enc55), .row v0_5 1 (l0_5.map enc_str), .row v0_6 1 (l0_6.map enc_str)] (fun v G own => v = .bool r1 ∧ G = [] ∧ own = []) := by
  refine VCalls.intro Try.func12 rfl (len rfl) fun E hC hW hD hU => ?_
  unfold journal_Right.f at h
  refine sr <| sG (o_box rfl (.agg (.f 0 rfl (.f 1 rfl (.c rfl (.c rfl (.c rfl (.f 2 rfl (.f 3 rfl .nil))))))))) fun g25206 => vs rfl <| nx <| va (op_fieldAddr FI27_0 rfl (add_at _ _ _)) <| va (op_load 0 2 rfl rfl TI25 rfl (fun h => absurd h (by decide))) <| ?_
  replace h := bd h
  obtain ⟨⟨r25207, r25208, t25209, t25210, t25211, r25212, r25213, t25214⟩, hA25215, h⟩ := h
  dsimp only at h
  refine sC (o_call0 FO9 (journal_Open.ok k l0_0 l0_1 v0_0 v0_1 r25207 r25208 t25209 t25210 t25211 r25212 r25213 t25214 hA25215) rfl rfl (ltn rfl) (All_of (.cons (mG 0 rfl) (.cons (mG 1 rfl) .nil)))) <| ?_
  rintro _ _ _ ⟨v25217, v25219, v25221, v25223, rfl, rfl, rfl⟩
  refine vm rfl <| va (op_extract rfl rfl) <| va (op_extract rfl rfl) <| sG (o_alloc Z27 ZL27) fun g25224 => s1 (o_store 0 7 rfl rfl rfl TI27 (.agg (.f 0 rfl (.f 1 rfl (.c rfl (.c rfl (.c rfl (.r 0 rfl (.r 1 rfl .nil)))))))) rfl (len rfl)) <| vs rfl <| nx <|
   va (op_fieldAddr FI27_1 rfl (add_at _ _ _)) <| va (op_load 0 1 rfl rfl TI3 rfl (by decide)) <| va (op_fieldAddr FI27_1 rfl (add_at _ _ _)) <| va (op_load 1 1 rfl rfl TI3 rfl (by decide)) <| VL.letter ((t25209 == a0_2)) fun b25319 hb25319 => va (op_cmp rfl rfl (congrArg some hb25319)) <| vm rfl <| ?_
  replace h := iC h
  rcases h with ⟨c25320, h⟩ | ⟨c25320, h⟩
  · obtain rfl : b25319 = true := hb25319.symm.trans (beq_iff_eq.2 c25320)
    refine va (op_fieldAddr FI27_2 rfl (add_at _ _ _)) <| va (op_load 0 1 rfl rfl TI3 rfl (by decide)) <| va (op_fieldAddr FI27_2 rfl (add_at _ _ _)) <| va (op_load 1 1 rfl rfl TI3 rfl (by decide)) <| VL.letter ((t25210 == a0_3)) fun b25321 hb25321 => va (op_cmp rfl rfl (congrArg some hb25321)) <|
     va (op_pick rfl rfl) <| vm rfl <| ?_
    replace h := iC h
    rcases h with ⟨c25322, h⟩ | ⟨c25322, h⟩
    · obtain rfl : b25321 = true := hb25321.symm.trans (beq_iff_eq.2 c25322)
      refine va (op_fieldAddr FI27_3 rfl (add_at _ _ _)) <| va (op_load 0 1 rfl rfl TI3 rfl (by decide)) <| va (op_fieldAddr FI27_3 rfl (add_at _ _ _)) <| va (op_load 1 1 rfl rfl TI3 rfl (by decide)) <| VL.letter ((t25211 == a0_4)) fun b25323 hb25323 => va (op_cmp rfl rfl (congrArg some hb25323)) <|
       va (op_pick rfl rfl) <| vm rfl <| ?_
      replace h := iC h
      rcases h with ⟨c25324, h⟩ | ⟨c25324, h⟩
      · obtain rfl : b25323 = true := hb25323.symm.trans (beq_iff_eq.2 c25324)
        refine va (op_fieldAddr FI27_5 rfl (add_at _ _ _)) <| va (op_load 0 1 rfl rfl TI22 rfl (by decide)) <| va (op_fieldAddr FI27_5 rfl (add_at _ _ _)) <| va (op_load 1 1 rfl rfl TI22 rfl (by decide)) <| ?_
        replace h := bd h
        obtain ⟨t25325, hA25326, h⟩ := h
        refine sC (o_call_b0 FO34 (slices_Equal_string_string.ok k r25213 l0_6 v25223 v0_6 t25325 hA25326) rfl rfl (ltn rfl) (All_of (.cons (.inr (.inl ⟨_, mG 1 rfl, rfl⟩)) (.cons (.inl (mG 5 rfl)) .nil))) (by rintro _ _ _ ⟨rfl, rfl, rfl⟩; rfl)) <| ?_
        rintro _ _ _ ⟨rfl, rfl, rfl⟩
        refine va (op_pick rfl rfl) <| vs rfl <| nx <| vm rfl <| VL.letter ((t25214 == 0)) fun b25652 hb25652 => va (op_cmp rfl rfl (congrArg some hb25652)) <| vm rfl <| ?_
        replace h := iC h
        rcases h with ⟨c25653, h⟩ | ⟨c25653, h⟩
        · obtain rfl : b25652 = true := hb25652.symm.trans (beq_iff_eq.2 c25653)
          refine vm rfl <| va (op_pick rfl rfl) <| vm rfl <| ?_
          replace h := iC h
          rcases h with ⟨c25654, h⟩ | ⟨c25654, h⟩
          · obtain rfl := c25654
            refine va (op_load 1 7 rfl rfl TI27 rfl (fun h => absurd h (by decide))) <| va (op_fieldAddr FI27_4 rfl (add_at _ _ _)) <| va (op_load 1 1 rfl rfl TI22 rfl (by decide)) <| ?_
            replace h := bd h
            obtain ⟨t25655, hA25656, h⟩ := h
            refine sC (o_call0 FO35 (journal_waits.ok k l0_0 l0_1 a0_2 a0_3 a0_4 l0_5 l0_6 l0_5 v0_0 v0_1 v0_5 v0_6 v0_5 t25655 hA25656) rfl rfl (ltn rfl) (All_of (.cons (mG 2 rfl) (.cons (mG 3 rfl) (.cons (mG 4 rfl) (.cons (mG 5 rfl) (.cons (mG 4 rfl) .nil))))))) <| ?_
            rintro _ _ _ ⟨rfl, rfl, rfl⟩
            refine VL.letter ((t25655 == 0)) fun b25657 hb25657 => va (op_cmp rfl rfl (congrArg some hb25657)) <| va (op_pick rfl rfl) <| vs rfl <| dt <| VC.ret <| ?_
            obtain rfl := Option.some.inj h
            subst hb25657
            exact rq 2 rfl ⟨rfl, rfl, rfl⟩
          obtain rfl := Bool.eq_false_iff.2 c25654
          refine un rfl <| un rfl <| un rfl <| un rfl <| un rfl <| va (op_pick rfl rfl) <| vs rfl <| dt <| VC.ret <| ?_
          obtain rfl := Option.some.inj h
          exact rq 2 rfl ⟨rfl, rfl, rfl⟩
        obtain rfl : b25652 = false := hb25652.symm.trans (beq_eq_false_iff_ne.2 c25653)
        refine un rfl <| va (op_pick rfl rfl) <| vm rfl <| un rfl <| un rfl <| un rfl <| un rfl <| un rfl <| va (op_pick rfl rfl) <| vs rfl <| dt <| VC.ret <| ?_
        obtain rfl := Option.some.inj h
        exact rq 2 rfl ⟨rfl, rfl, rfl⟩
      obtain rfl : b25323 = false := hb25323.symm.trans (beq_eq_false_iff_ne.2 c25324)
      refine un rfl <| un rfl <| un rfl <| un rfl <| un rfl <| va (op_pick rfl rfl) <| vs rfl <| nx <| vm rfl <| VL.letter ((t25214 == 0)) fun b25660 hb25660 => va (op_cmp rfl rfl (congrArg some hb25660)) <| vm rfl <| ?_
      replace h := iC h
      rcases h with ⟨c25661, h⟩ | ⟨c25661, h⟩
      · obtain rfl : b25660 = true := hb25660.symm.trans (beq_iff_eq.2 c25661)
        refine vm rfl <| va (op_pick rfl rfl) <| vm rfl <| un rfl <| un rfl <| un rfl <| un rfl <| un rfl <| va (op_pick rfl rfl) <| vs rfl <| dt <| VC.ret <| ?_
        obtain rfl := Option.some.inj h
        exact rq 2 rfl ⟨rfl, rfl, rfl⟩
      obtain rfl : b25660 = false := hb25660.symm.trans (beq_eq_false_iff_ne.2 c25661)
      refine un rfl <| va (op_pick rfl rfl) <| vm rfl <| un rfl <| un rfl <| un rfl <| un rfl <| un rfl <| va (op_pick rfl rfl) <| vs rfl <| dt <| VC.ret <| ?_
      obtain rfl := Option.some.inj h
      exact rq 2 rfl ⟨rfl, rfl, rfl⟩
    obtain rfl : b25321 = false := hb25321.symm.trans (beq_eq_false_iff_ne.2 c25322)
    refine un rfl <| un rfl <| un rfl <| un rfl <| un rfl <| va (op_pick rfl rfl) <| vm rfl <| un rfl <| un rfl <| un rfl <| un rfl <| un rfl <| va (op_pick rfl rfl) <| vs rfl <| nx <| vm rfl <| VL.letter ((t25214 == 0)) fun b25664 hb25664 => va (op_cmp rfl rfl (congrArg some hb25664)) <| vm rfl <| ?_
    replace h := iC h
    rcases h with ⟨c25665, h⟩ | ⟨c25665, h⟩
    · obtain rfl : b25664 = true := hb25664.symm.trans (beq_iff_eq.2 c25665)
      refine vm rfl <| va (op_pick rfl rfl) <| vm rfl <| un rfl <| un rfl <| un rfl <| un rfl <| un rfl <| va (op_pick rfl rfl) <| vs rfl <| dt <| VC.ret <| ?_
      obtain rfl := Option.some.inj h
      exact rq 2 rfl ⟨rfl, rfl, rfl⟩
    obtain rfl : b25664 = false := hb25664.symm.trans (beq_eq_false_iff_ne.2 c25665)
    refine un rfl <| va (op_pick rfl rfl) <| vm rfl <| un rfl <| un rfl <| un rfl <| un rfl <| un rfl <| va (op_pick rfl rfl) <| vs rfl <| dt <| VC.ret <| ?_
    obtain rfl := Option.some.inj h
    exact rq 2 rfl ⟨rfl, rfl, rfl⟩
  obtain rfl : b25319 = false := hb25319.symm.trans (beq_eq_false_iff_ne.2 c25320)
  refine un rfl <| un rfl <| un rfl <| un rfl <| un rfl <| va (op_pick rfl rfl) <| vm rfl <| un rfl <| un rfl <| un rfl <| un rfl <| un rfl <| va (op_pick rfl rfl) <| vm rfl <| un rfl <| un rfl <| un rfl <| un rfl <| un rfl <| va (op_pick rfl rfl) <| vs rfl <| nx <| vm rfl <|
   VL.letter ((t25214 == 0)) fun b25668 hb25668 => va (op_cmp rfl rfl (congrArg some hb25668)) <| vm rfl <| ?_
  replace h := iC h
  rcases h with ⟨c25669, h⟩ | ⟨c25669, h⟩
  · obtain rfl : b25668 = true := hb25668.symm.trans (beq_iff_eq.2 c25669)
    refine vm rfl <| va (op_pick rfl rfl) <| vm rfl <| un rfl <| un rfl <| un rfl <| un rfl <| un rfl <| va (op_pick rfl rfl) <| vs rfl <| dt <| VC.ret <| ?_
    obtain rfl := Option.some.inj h
    exact rq 2 rfl ⟨rfl, rfl, rfl⟩
  obtain rfl : b25668 = false := hb25668.symm.trans (beq_eq_false_iff_ne.2 c25669)
  refine un rfl <| va (op_pick rfl rfl) <| vm rfl <| un rfl <| un rfl <| un rfl <| un rfl <| un rfl <| va (op_pick rfl rfl) <| vs rfl <| dt <| VC.ret <| ?_
  obtain rfl := Option.some.inj h
  exact rq 2 rfl ⟨rfl, rfl, rfl⟩

theorem tarryref05_Waits.ok (k : Nat) (l0_0 : List ByteArray) (l0_1 : List S55) (a0_2 : Int) (a0_3 : Int) (a0_4 : Int) (l0_5 : List ByteArray) (l0_6 : List ByteArray) (l1 : List ByteArray) (v0_0 : Value) (v0_1 : Value) (v0_5 : Value) (v0_6 : Value) (v1 : Value) (r1 : Int) (h : tarryref05_Waits.f k l0_0 l0_1 a0_2 a0_3 a0_4 l0_5 l0_6 l1 = some r1) :
    VCalls Try.prog 36 [.agg #[v0_0, v0_1, iv a0_2, iv a0_3, iv a0_4, v0_5, v0_6], v1] [.row v0_0 1 (l0_0.map enc_str), .row v0_1 2 (l0_1.map enc55), .row v0_5 1 (l0_5.map enc_str), .row v0_6 1 (l0_6.map enc_str), .row v1 1 (l1.map enc_str)] (fun v G own => v = iv r1 ∧ G = [] ∧ own = []) := by
  refine VCalls.intro Try.func36 rfl (len rfl) fun E hC hW hD hU => ?_
  unfold tarryref05_Waits.f at h
  refine sr <| sG (o_box rfl (.agg (.f 0 rfl (.f 1 rfl (.c rfl (.c rfl (.c rfl (.f 2 rfl (.f 3 rfl .nil))))))))) fun g25711 => vs rfl <| ds <| sr <| vm rfl <| va (op_len (m := l1.length) 4 lenm Try.underlying22 rfl rfl) <| vm rfl <| dt <| VC.block <|
   VC.loop1 (fun (i25769 : Int) => ⟨40, [(1, v1), (2, pt g25711 0), (4, iv 0), (8, v1), (9, iv (l1.length : Int)), (10, iv i25769)], [.row v1 1 (l1.map enc_str), .row v0_0 1 (l0_0.map enc_str), .row v0_1 2 (l0_1.map enc55), .row v0_5 1 (l0_5.map enc_str), .row v0_6 1 (l0_6.map enc_str)], [(g25711, 27, [v0_0, v0_1, iv a0_2, iv a0_3, iv a0_4, v0_5, v0_6])], []⟩) (fun (ml1 : Nat) (i25769 : Int) => tarryref05_Waits.l1 k a0_4 l0_0 l1 ml1 i25769 = some r1) k 0 [0] [] h ⟨rfl, ⟨rfl, rfl, rfl, rfl, rfl, rfl, trivial⟩, ⟨⟨4, rfl⟩, ⟨0, rfl⟩, ⟨1, rfl⟩, ⟨2, rfl⟩, ⟨3, rfl⟩, trivial⟩, rfl, by decide, rfl, by decide⟩ (by intros; simp [tarryref05_Waits.l1]) <|
   ?_
  clear h
  intro ml1 ihl1 i25769 h
  simp only [tarryref05_Waits.l1] at h
  refine sr <| VL.letter (decide (i25769 < (l1.length : Int))) fun b25785 hb25785 => va (op_cmp rfl rfl (congrArg some hb25785)) <| ds <| ?_
  replace h := iC h
  rcases h with ⟨c25805, h⟩ | ⟨c25805, h⟩
  · cases lT c25805 hb25785
    refine ct <| sk <| sq <| VC.block <| sr <| ?_
    replace h := iN h
    obtain ⟨c25812, h⟩ := h
    replace h := bd h
    obtain ⟨x25813, hx25813, h⟩ := h
    refine VL.open (m := l1.length) 0 lenm rfl (pos_get hx25813) <| ?_
    rintro ad25814 n25815 rfl
    refine va (op_indexAddr Try.underlying22 TI9 rfl rfl c25812 (lt_get c25812 hx25813) rfl) <| va (op_load_row (sz := 1) (o := 0) 0 i25769.toNat 1 rfl rfl (get_map hx25813) TI9 rfl (by decide)) <| vs rfl <| nx <| vm rfl <| va (op_lens Try.underlying9 rfl) <|
     VL.letter (decide ((x25813.size : Int) > 1000)) fun b25816 hb25816 => va (op_cmp rfl rfl (congrArg some hb25816)) <| dt <| ?_
    replace h := iC h
    rcases h with ⟨c25817, h⟩ | ⟨c25817, h⟩
    · cases lT c25817 hb25816
      refine ct <| sr <| vs rfl <| dt <| VC.ret <| VR.block <| VR.then <| VR.then <| VR.block <| VR.then <| ?_
      obtain rfl := Option.some.inj h
      exact rq 4 rfl ⟨rfl, rfl, rfl⟩
    cases lF c25817 hb25816
    refine cf <| VC.skip <| VN.block <| tr <| va (op_ari64 rfl rfl rfl) <| vm rfl <| dn <| VN.again [0] [] (ihl1 (wrap64 (i25769 + 1)) h)
  cases lF c25805 hb25785
  refine cf <| VC.exit <| VX.then <| VX.then <| VX.hit <| tx <| vm rfl <| ?_
  replace h := bd h
  obtain ⟨t25818, hA25819, h⟩ := h
  refine sC (o_call0 FO32 (tarryref04_Whole.ok k l1 v1 t25818 hA25819) rfl rfl (ltn rfl) (All_of (.cons (mG 0 rfl) .nil))) <| ?_
  rintro _ _ _ ⟨rfl, rfl, rfl⟩
  refine va (op_lens Try.underlying9 rfl) <| vs rfl <| ds <| VC.letter (decide ((l1.length : Int) > 16)) fun b25828 hb25828 => ?_
  replace h := iC h
  rcases h with ⟨c25829, h⟩ | ⟨c25829, h⟩
  · cases lT c25829 hb25828
    refine VC.join0 (⟨40, [(4, iv 0), (39, .bool true)], [], [], []⟩) (True) ?_ ?_
    · exact dw ⟨0, [], [.row v1 1 (l1.map enc_str)], [], []⟩ 19 <| av 0 1 rfl (mv rfl) <| av 1 3 rfl (op_len (m := l1.length) 0 lenm Try.underlying22 rfl rfl) <| av 2 7 rfl (op_cmp rfl rfl (congrArg some hb25828)) <| av 3 15 rfl (mv rfl) <| au 4 31 rfl rfl <| au 5 63 rfl rfl <|
       av 6 127 rfl (op_pick rfl rfl) <| av 7 255 rfl (mv rfl) <| au 8 511 rfl rfl <| au 9 1023 rfl rfl <| au 10 2047 rfl rfl <| au 11 4095 rfl rfl <| au 12 8191 rfl rfl <| au 13 16383 rfl rfl <| au 14 32767 rfl rfl <| au 15 65535 rfl rfl <| au 16 131071 rfl rfl <| au 17 262143 rfl rfl <|
       av 18 524287 rfl (op_pick rfl rfl) <| ad <| VN.meet0 [] [] trivial
    intro _
    refine ct <| sr <| vs rfl <| dt <| VC.ret <| VR.then <| ?_
    obtain rfl := Option.some.inj h
    exact rq 4 rfl ⟨rfl, rfl, rfl⟩
  cases lF c25829 hb25828
  refine VC.letter (decide ((t25818.size : Int) > 3000)) fun b25830 hb25830 => ?_
  replace h := iC h
  rcases h with ⟨c25831, h⟩ | ⟨c25831, h⟩
  · cases lT c25831 hb25830
    refine VC.join0 (⟨40, [(4, iv 0), (39, .bool true)], [], [], []⟩) (True) ?_ ?_
    · exact dw ⟨0, [], [.row v1 1 (l1.map enc_str)], [], []⟩ 19 <| av 0 1 rfl (mv rfl) <| av 1 3 rfl (op_len (m := l1.length) 0 lenm Try.underlying22 rfl rfl) <| av 2 7 rfl (op_cmp rfl rfl (congrArg some hb25828)) <| av 3 15 rfl (mv rfl) <| av 4 31 rfl (mv rfl) <|
       av 5 63 rfl (op_cmp rfl rfl (congrArg some hb25830)) <| av 6 127 rfl (op_pick rfl rfl) <| av 7 255 rfl (mv rfl) <| au 8 511 rfl rfl <| au 9 1023 rfl rfl <| au 10 2047 rfl rfl <| au 11 4095 rfl rfl <| au 12 8191 rfl rfl <| au 13 16383 rfl rfl <| au 14 32767 rfl rfl <| au 15 65535 rfl rfl <|
       au 16 131071 rfl rfl <| au 17 262143 rfl rfl <| av 18 524287 rfl (op_pick rfl rfl) <| ad <| VN.meet0 [] [] trivial
    intro _
    refine ct <| sr <| vs rfl <| dt <| VC.ret <| VR.then <| ?_
    obtain rfl := Option.some.inj h
    exact rq 4 rfl ⟨rfl, rfl, rfl⟩
  cases lF c25831 hb25830
  replace h := bd h
  obtain ⟨t25832, hA25833, h⟩ := h
  refine VC.letter (decide ((wrap64 (a0_4 + (t25818.size : Int))) > t25832)) fun b25834 hb25834 => VC.join0 (⟨40, [(4, iv 0), (39, .bool b25834)], [], [], []⟩) (True) ?_ ?_
  · refine dw ⟨0, [], [.row v1 1 (l1.map enc_str), .row v0_0 1 (l0_0.map enc_str)], [(g25711, 27, [v0_0, v0_1, iv a0_2, iv a0_3, iv a0_4, v0_5, v0_6])], []⟩ 19 <| av 0 1 rfl (mv rfl) <| av 1 3 rfl (op_len (m := l1.length) 0 lenm Try.underlying22 rfl rfl) <|
     av 2 7 rfl (op_cmp rfl rfl (congrArg some hb25828)) <| av 3 15 rfl (mv rfl) <| av 4 31 rfl (mv rfl) <| av 5 63 rfl (op_cmp rfl rfl (congrArg some hb25830)) <| av 6 127 rfl (op_pick rfl rfl) <| av 7 255 rfl (mv rfl) <| av 8 511 rfl (op_fieldAddr FI27_3 rfl (add_at _ _ _)) <|
     av 9 1023 rfl (op_load 0 1 rfl rfl TI3 rfl (by decide)) <| av 10 2047 rfl (mv rfl) <| av 11 4095 rfl (op_ari64 rfl rfl rfl) <| av 12 8191 rfl (op_fieldAddr FI27_0 rfl (add_at _ _ _)) <| av 13 16383 rfl (op_fieldAddr FI25_0 rfl (add_at _ _ _)) <|
     av 14 32767 rfl (op_load 0 1 rfl rfl TI22 rfl (by decide)) <| av 15 65535 rfl (op_len (m := l0_0.length) 1 lenm Try.underlying22 rfl rfl) <| aC 16 131071 rfl (o_call0 FO61 (tarryref05_Room.ok (l0_0.length : Int) t25832 hA25833) rfl rfl (ltn rfl) (All_of .nil)) <| ?_
    rintro _ _ _ ⟨rfl, rfl, rfl⟩
    refine ⟨⟨⟨⟨0, rfl⟩, ⟨1, rfl⟩, trivial⟩, ⟨⟨0, rfl⟩, trivial⟩, trivial⟩, ?_⟩
    exact av 17 262143 rfl (op_cmp rfl rfl (congrArg some hb25834)) <| av 18 524287 rfl (op_pick rfl rfl) <| ad <| VN.meet0 [] [] trivial
  intro _
  replace h := iC h
  rcases h with ⟨c25835, h⟩ | ⟨c25835, h⟩
  · cases lT c25835 hb25834
    refine ct <| sr <| vs rfl <| dt <| VC.ret <| VR.then <| ?_
    obtain rfl := Option.some.inj h
    exact rq 4 rfl ⟨rfl, rfl, rfl⟩
  cases lF c25835 hb25834
  refine cf <| sk <| sr <| vs rfl <| dt <| VC.ret <| ?_
  obtain rfl := Option.some.inj h
  exact rq 4 rfl ⟨rfl, rfl, rfl⟩

theorem tarryref05_Right.ok (k : Nat) (l0_0 : List ByteArray) (l0_1 : List S55) (a0_2 : Int) (a0_3 : Int) (a0_4 : Int) (l0_5 : List ByteArray) (l0_6 : List ByteArray) (v0_0 : Value) (v0_1 : Value) (v0_5 : Value) (v0_6 : Value) (r1 : Bool) (h : tarryref05_Right.f k l0_0 l0_1 a0_2 a0_3 a0_4 l0_5 l0_6 = some r1) :
    VCalls Try.prog 13 [.agg #[v0_0, v0_1, iv a0_2, iv a0_3, iv a0_4, v0_5, v0_6]] [.row v0_0 1 (l0_0.map enc_str), .row v0_1 2 (l0_1.map enc55), .row v0_5 1 (l0_5.map enc_str), .row v0_6 1 (l0_6.map enc_str)] (fun v G own => v = .bool r1 ∧ G = [] ∧ own = []) := by
  refine VCalls.intro Try.func13 rfl (len rfl) fun E hC hW hD hU => ?_
  unfold tarryref05_Right.f at h
  refine sr <| sG (o_box rfl (.agg (.f 0 rfl (.f 1 rfl (.c rfl (.c rfl (.c rfl (.f 2 rfl (.f 3 rfl .nil))))))))) fun g25676 => vs rfl <| nx <| va (op_fieldAddr FI27_0 rfl (add_at _ _ _)) <| va (op_load 0 2 rfl rfl TI25 rfl (fun h => absurd h (by decide))) <| ?_
  replace h := bd h
  obtain ⟨⟨r25677, r25678, t25679, t25680, t25681, r25682, r25683, t25684⟩, hA25685, h⟩ := h
  dsimp only at h
  refine sC (o_call0 FO10 (tarryref05_Open.ok k l0_0 l0_1 v0_0 v0_1 r25677 r25678 t25679 t25680 t25681 r25682 r25683 t25684 hA25685) rfl rfl (ltn rfl) (All_of (.cons (mG 0 rfl) (.cons (mG 1 rfl) .nil)))) <| ?_
  rintro _ _ _ ⟨v25687, v25689, v25691, v25693, rfl, rfl, rfl⟩
  refine sG (o_alloc Z34 ZL34) fun g25694 => s1 (o_store 0 8 rfl rfl rfl TI34 (.agg (.f 0 rfl (.f 1 rfl (.c rfl (.c rfl (.c rfl (.r 0 rfl (.r 1 rfl (.c rfl .nil))))))))) rfl (len rfl)) <| nx <| va (op_fieldAddr FI34_1 rfl (add_at _ _ _)) <| va (op_load 0 1 rfl rfl TI30 rfl (by decide)) <|
   VL.letter ((t25684 == 0)) fun b25839 hb25839 => va (op_cmp rfl rfl (congrArg some hb25839)) <| vm rfl <| ?_
  replace h := iC h
  rcases h with ⟨c25840, h⟩ | ⟨c25840, h⟩
  · obtain rfl : b25839 = true := hb25839.symm.trans (beq_iff_eq.2 c25840)
    refine va (op_fieldAddr FI34_0 rfl (add_at _ _ _)) <| va (op_fieldAddr FI27_1 rfl (add_at _ _ _)) <| va (op_load 0 1 rfl rfl TI3 rfl (by decide)) <| va (op_fieldAddr FI27_1 rfl (add_at _ _ _)) <| va (op_load 1 1 rfl rfl TI3 rfl (by decide)) <|
     VL.letter ((t25679 == a0_2)) fun b25841 hb25841 => va (op_cmp rfl rfl (congrArg some hb25841)) <| va (op_pick rfl rfl) <| vm rfl <| ?_
    replace h := iC h
    rcases h with ⟨c25842, h⟩ | ⟨c25842, h⟩
    · obtain rfl : b25841 = true := hb25841.symm.trans (beq_iff_eq.2 c25842)
      refine va (op_fieldAddr FI34_0 rfl (add_at _ _ _)) <| va (op_fieldAddr FI27_2 rfl (add_at _ _ _)) <| va (op_load 0 1 rfl rfl TI3 rfl (by decide)) <| va (op_fieldAddr FI27_2 rfl (add_at _ _ _)) <| va (op_load 1 1 rfl rfl TI3 rfl (by decide)) <|
       VL.letter ((t25680 == a0_3)) fun b25843 hb25843 => va (op_cmp rfl rfl (congrArg some hb25843)) <| va (op_pick rfl rfl) <| vm rfl <| ?_
      replace h := iC h
      rcases h with ⟨c25844, h⟩ | ⟨c25844, h⟩
      · obtain rfl : b25843 = true := hb25843.symm.trans (beq_iff_eq.2 c25844)
        refine va (op_fieldAddr FI34_0 rfl (add_at _ _ _)) <| va (op_fieldAddr FI27_3 rfl (add_at _ _ _)) <| va (op_load 0 1 rfl rfl TI3 rfl (by decide)) <| va (op_fieldAddr FI27_3 rfl (add_at _ _ _)) <| va (op_load 1 1 rfl rfl TI3 rfl (by decide)) <|
         VL.letter ((t25681 == a0_4)) fun b25845 hb25845 => va (op_cmp rfl rfl (congrArg some hb25845)) <| va (op_pick rfl rfl) <| vm rfl <| ?_
        replace h := iC h
        rcases h with ⟨c25846, h⟩ | ⟨c25846, h⟩
        · obtain rfl : b25845 = true := hb25845.symm.trans (beq_iff_eq.2 c25846)
          refine va (op_fieldAddr FI34_0 rfl (add_at _ _ _)) <| va (op_fieldAddr FI27_5 rfl (add_at _ _ _)) <| va (op_load 0 1 rfl rfl TI22 rfl (by decide)) <| va (op_fieldAddr FI27_5 rfl (add_at _ _ _)) <| va (op_load 1 1 rfl rfl TI22 rfl (by decide)) <| ?_
          replace h := bd h
          obtain ⟨t25847, hA25848, h⟩ := h
          refine sC (o_call_b0 FO17 (tarryref01_Same.ok k r25683 l0_6 v25693 v0_6 t25847 hA25848) rfl rfl (ltn rfl) (All_of (.cons (.inr (.inl ⟨_, mG 1 rfl, rfl⟩)) (.cons (.inl (mG 5 rfl)) .nil))) (by rintro _ _ _ ⟨rfl, rfl, rfl⟩; rfl)) <| ?_
          rintro _ _ _ ⟨rfl, rfl, rfl⟩
          refine va (op_pick rfl rfl) <| vm rfl <| ?_
          replace h := iC h
          rcases h with ⟨c25849, h⟩ | ⟨c25849, h⟩
          · obtain rfl := c25849
            refine va (op_load 1 7 rfl rfl TI27 rfl (fun h => absurd h (by decide))) <| va (op_fieldAddr FI27_4 rfl (add_at _ _ _)) <| va (op_load 1 1 rfl rfl TI22 rfl (by decide)) <| ?_
            replace h := bd h
            obtain ⟨t25850, hA25851, h⟩ := h
            refine sC (o_call0 FO36 (tarryref05_Waits.ok k l0_0 l0_1 a0_2 a0_3 a0_4 l0_5 l0_6 l0_5 v0_0 v0_1 v0_5 v0_6 v0_5 t25850 hA25851) rfl rfl (ltn rfl) (All_of (.cons (mG 2 rfl) (.cons (mG 3 rfl) (.cons (mG 4 rfl) (.cons (mG 5 rfl) (.cons (mG 4 rfl) .nil))))))) <| ?_
            rintro _ _ _ ⟨rfl, rfl, rfl⟩
            refine VL.letter ((t25850 == 0)) fun b25852 hb25852 => va (op_cmp rfl rfl (congrArg some hb25852)) <| va (op_pick rfl rfl) <| vs rfl <| dt <| VC.ret <| ?_
            obtain rfl := Option.some.inj h
            subst hb25852
            exact rq 2 rfl ⟨rfl, rfl, rfl⟩
          obtain rfl := Bool.eq_false_iff.2 c25849
          refine un rfl <| un rfl <| un rfl <| un rfl <| un rfl <| va (op_pick rfl rfl) <| vs rfl <| dt <| VC.ret <| ?_
          obtain rfl := Option.some.inj h
          exact rq 2 rfl ⟨rfl, rfl, rfl⟩
        obtain rfl : b25845 = false := hb25845.symm.trans (beq_eq_false_iff_ne.2 c25846)
        refine un rfl <| un rfl <| un rfl <| un rfl <| un rfl <| un rfl <| va (op_pick rfl rfl) <| vm rfl <| un rfl <| un rfl <| un rfl <| un rfl <| un rfl <| va (op_pick rfl rfl) <| vs rfl <| dt <| VC.ret <| ?_
        obtain rfl := Option.some.inj h
        exact rq 2 rfl ⟨rfl, rfl, rfl⟩
      obtain rfl : b25843 = false := hb25843.symm.trans (beq_eq_false_iff_ne.2 c25844)
      refine un rfl <| un rfl <| un rfl <| un rfl <| un rfl <| un rfl <| va (op_pick rfl rfl) <| vm rfl <| un rfl <| un rfl <| un rfl <| un rfl <| un rfl <| un rfl <| va (op_pick rfl rfl) <| vm rfl <| un rfl <| un rfl <| un rfl <| un rfl <| un rfl <| va (op_pick rfl rfl) <| vs rfl <| dt <| VC.ret <| ?_
      obtain rfl := Option.some.inj h
      exact rq 2 rfl ⟨rfl, rfl, rfl⟩
    obtain rfl : b25841 = false := hb25841.symm.trans (beq_eq_false_iff_ne.2 c25842)
    refine un rfl <| un rfl <| un rfl <| un rfl <| un rfl <| un rfl <| va (op_pick rfl rfl) <| vm rfl <| un rfl <| un rfl <| un rfl <| un rfl <| un rfl <| un rfl <| va (op_pick rfl rfl) <| vm rfl <| un rfl <| un rfl <| un rfl <| un rfl <| un rfl <| un rfl <| va (op_pick rfl rfl) <| vm rfl <| un rfl <|
     un rfl <| un rfl <| un rfl <| un rfl <| va (op_pick rfl rfl) <| vs rfl <| dt <| VC.ret <| ?_
    obtain rfl := Option.some.inj h
    exact rq 2 rfl ⟨rfl, rfl, rfl⟩
  obtain rfl : b25839 = false := hb25839.symm.trans (beq_eq_false_iff_ne.2 c25840)
  refine un rfl <| un rfl <| un rfl <| un rfl <| un rfl <| un rfl <| va (op_pick rfl rfl) <| vm rfl <| un rfl <| un rfl <| un rfl <| un rfl <| un rfl <| un rfl <| va (op_pick rfl rfl) <| vm rfl <| un rfl <| un rfl <| un rfl <| un rfl <| un rfl <| un rfl <| va (op_pick rfl rfl) <| vm rfl <| un rfl <|
   un rfl <| un rfl <| un rfl <| un rfl <| un rfl <| va (op_pick rfl rfl) <| vm rfl <| un rfl <| un rfl <| un rfl <| un rfl <| un rfl <| va (op_pick rfl rfl) <| vs rfl <| dt <| VC.ret <| ?_
  obtain rfl := Option.some.inj h
  exact rq 2 rfl ⟨rfl, rfl, rfl⟩

def lay_70_ren : Go.Shelf.Ren := ⟨fun | 105 => 70 | 212 => 83 | 99 => 84 | 165 => 57 | 166 => 58 | 170 => 85 | 169 => 59 | 263 => 95 | 264 => 96 | 206 => 97 | 240 => 77 | 241 => 78 | 276 => 91 | 277 => 92 | n => n, fun | 9 => 9 | 3 => 3 | 4 => 4 | 20 => 20 | 0 => 0 | 46 => 125 | 109 => 126 | 5 => 5 | 72 => 96 | 76 => 100 | 51 => 108 | 146 => 138 | 53 => 47 | 148 => 140 | 70 => 94 | 37 => 41 | 75 => 99 | 127 => 119 | 164 => 133 | 80 => 76 | n => n, fun | n => n⟩
theorem lay_70 : Go.Proofs.Lays.n105 Try.prog lay_70_ren where
  mixed := by kernel_rfl
  f99 := Try.func84.trans (congrArg some (by kernel_rfl))
  f105 := Try.func70.trans (congrArg some (by kernel_rfl))
  f165 := Try.func57.trans (congrArg some (by kernel_rfl))
  f166 := Try.func58.trans (congrArg some (by kernel_rfl))
  f169 := Try.func59.trans (congrArg some (by kernel_rfl))
  f170 := Try.func85.trans (congrArg some (by kernel_rfl))
  f206 := Try.func97.trans (congrArg some (by kernel_rfl))
  f212 := Try.func83.trans (congrArg some (by kernel_rfl))
  f240 := Try.func77.trans (congrArg some (by kernel_rfl))
  f241 := Try.func78.trans (congrArg some (by kernel_rfl))
  f263 := Try.func95.trans (congrArg some (by kernel_rfl))
  f264 := Try.func96.trans (congrArg some (by kernel_rfl))
  f276 := Try.func91.trans (congrArg some (by kernel_rfl))
  f277 := Try.func92.trans (congrArg some (by kernel_rfl))
  t0 := Try.underlying0
  a0 := Try.isAgg0
  z0 := Try.sizeOf0
  v0 := Try.zeroValue0
  t3 := Try.underlying3
  a3 := Try.isAgg3
  z3 := Try.sizeOf3
  v3 := Try.zeroValue3
  t4 := Try.underlying4
  a4 := Try.isAgg4
  z4 := Try.sizeOf4
  v4 := Try.zeroValue4
  t5 := Try.underlying5
  a5 := Try.isAgg5
  z5 := Try.sizeOf5
  v5 := Try.zeroValue5
  t9 := Try.underlying9
  a9 := Try.isAgg9
  z9 := Try.sizeOf9
  v9 := Try.zeroValue9
  t20 := Try.underlying20
  a20 := Try.isAgg20
  z20 := Try.sizeOf20
  v20 := Try.zeroValue20
  t37 := Try.underlying41
  a37 := Try.isAgg41
  z37 := Try.sizeOf41
  v37 := Try.zeroValue41
  t46 := Try.underlying125
  a46 := Try.isAgg125
  z46 := Try.sizeOf125
  v46 := Try.zeroValue125
  t51 := Try.underlying108
  a51 := Try.isAgg108
  z51 := Try.sizeOf108
  v51 := Try.zeroValue108
  t53 := Try.underlying47
  a53 := Try.isAgg47
  z53 := Try.sizeOf47
  v53 := Try.zeroValue47
  t70 := Try.underlying94
  a70 := Try.isAgg94
  z70 := Try.sizeOf94
  v70 := Try.zeroValue94
  t72 := Try.underlying96
  a72 := Try.isAgg96
  z72 := Try.sizeOf96
  v72 := Try.zeroValue96
  t75 := Try.underlying99
  a75 := Try.isAgg99
  z75 := Try.sizeOf99
  v75 := Try.zeroValue99
  t76 := Try.underlying100
  a76 := Try.isAgg100
  z76 := Try.sizeOf100
  v76 := Try.zeroValue100
  t109 := Try.underlying126
  a109 := Try.isAgg126
  z109 := Try.sizeOf126
  v109 := Try.zeroValue126
  t127 := Try.underlying119
  a127 := Try.isAgg119
  z127 := Try.sizeOf119
  v127 := Try.zeroValue119
  t146 := Try.underlying138
  a146 := Try.isAgg138
  z146 := Try.sizeOf138
  v146 := Try.zeroValue138
  t148 := Try.underlying140
  a148 := Try.isAgg140
  z148 := Try.sizeOf140
  v148 := Try.zeroValue140
  t164 := Try.underlying133
  a164 := Try.isAgg133
  z164 := Try.sizeOf133
  v164 := Try.zeroValue133
theorem lay_70x : Go.Proofs.Builder.Extra Try.prog lay_70_ren where
  sizeBuilder := by kernel_rfl
  liesBuilder := by kernel_rfl
  t5 := Try.underlying5
  a5 := Try.isAgg5
  z5 := Try.sizeOf5
  v5 := Try.zeroValue5
  infoByte := by kernel_rfl
  cellsByte := by kernel_rfl
  sizeByte := by kernel_rfl
  neB5 := by decide

theorem strings_Repeat.ok (s : ByteArray) (c : Int) (r1 : ByteArray) (h : strings_Repeat.f s c = some r1) :
    VCalls Try.prog 70 [.string s, iv c] [] (fun v G own => v = .string r1 ∧ G = [] ∧ own = []) := by
  unfold strings_Repeat.f at h
  by_cases hc : ¬ (0 ≤ c ∧ c ≤ 9223372036854775807 ∧ s.size * c.toNat ≤ 140737488355328)
  · rw [if_neg hc] at h; cases h
  replace hc := Decidable.not_not.1 hc
  rw [if_pos hc] at h
  obtain rfl := Option.some.inj h
  obtain ⟨n, rfl⟩ : ∃ n : Nat, c = (n : Int) := ⟨c.toNat, by omega⟩
  exact VCalls.of fun w => Go.Proofs.Any.strings_Repeat lay_70 lay_70x s n w (by omega) (by simpa using hc.2.2)

end Go.Proofs.Ytipeglbeongfmaa.PJournalOpens
