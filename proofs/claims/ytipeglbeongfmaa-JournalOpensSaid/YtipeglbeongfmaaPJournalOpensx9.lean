/- Written by a program of this repo: what the program's functions do, each as a Lean function, shown of the loaded code; or a statement's row over that; no condition of its own. -/
import Derived.Test.YtipeglbeongfmaaPJournalOpensx8
namespace Go.Proofs.Ytipeglbeongfmaa.PJournalOpens
open Go Go.RowKit Go.Proofs.YtipeglbeongfmaaV
set_option linter.unusedVariables false
set_option linter.unusedSimpArgs false
set_option maxHeartbeats 4000000
set_option maxRecDepth 100000

theorem tarryref03_Get.ok (k : Nat) (l0_0 : List ByteArray) (l0_1 : List S55) (a1 : Int) (v0_0 : Value) (v0_1 : Value) (r1 : ByteArray) (h : tarryref03_Get.f k l0_0 l0_1 a1 = some r1) :
    VCalls Try.prog 62 [.agg #[v0_0, v0_1], iv a1] [.row v0_0 1 (l0_0.map enc_str), .row v0_1 2 (l0_1.map enc55)] (fun v G own => v = .string r1 ∧ G = [] ∧ own = []) := by
  refine VCalls.intro Try.func62 rfl (len rfl) fun E hC hW hD hU => ?_
  unfold tarryref03_Get.f at h
  refine sr <| sG (o_box rfl (.agg (.f 0 rfl (.f 1 rfl .nil)))) fun g7533 => vs rfl <| nx <| va (op_fieldAddr FI25_0 rfl (add_at _ _ _)) <| va (op_load 0 1 rfl rfl TI22 rfl (by decide)) <| vm rfl <| ?_
  replace h := iN h
  obtain ⟨c7534, h⟩ := h
  replace h := bd h
  obtain ⟨x7535, hx7535, h⟩ := h
  refine VL.open (m := l0_0.length) 0 lenm rfl (pos_get hx7535) <| ?_
  rintro ad7536 n7537 rfl
  refine va (op_indexAddr Try.underlying22 TI9 rfl rfl c7534 (lt_get c7534 hx7535) rfl) <| va (op_load_row (sz := 1) (o := 0) 0 a1.toNat 1 rfl rfl (get_map hx7535) TI9 rfl (by decide)) <| vs rfl <| ds <| sr <| va (op_fieldAddr FI25_1 rfl (add_at _ _ _)) <|
   va (op_load 0 1 rfl rfl TI23 rfl (by decide)) <| va (op_len (m := l0_1.length) 1 lenm Try.underlying23 rfl rfl) <| vm rfl <| dt <| VC.block <|
   VC.loop2 (fun (s7604 : ByteArray) (i7605 : Int) => ⟨28, [(1, iv a1), (4, .string (⟨#[]⟩ : ByteArray)), (5, .string s7604), (14, v0_1), (15, iv (l0_1.length : Int)), (16, iv i7605)], [.row v0_1 2 (l0_1.map enc55)], [], []⟩) (fun (ml1 : Nat) (s7604 : ByteArray) (i7605 : Int) => tarryref03_Get.l1 k a1 l0_1 ml1 s7604 i7605 = some r1) k x7535 0 [] [] h ⟨rfl, ⟨rfl, rfl, rfl, rfl, rfl, rfl, trivial⟩, ⟨⟨1, rfl⟩, trivial⟩, rfl, by decide, rfl, by decide⟩ (by intros; simp [tarryref03_Get.l1]) <|
   ?_
  clear h
  intro ml1 ihl1 s7604 i7605 h
  simp only [tarryref03_Get.l1] at h
  refine sr <| VL.letter (decide (i7605 < (l0_1.length : Int))) fun b7623 hb7623 => va (op_cmp rfl rfl (congrArg some hb7623)) <| ds <| ?_
  replace h := iC h
  rcases h with ⟨c7625, h⟩ | ⟨c7625, h⟩
  · cases lT c7625 hb7623
    refine ct <| sk <| sq <| VC.block <| sr <| ?_
    replace h := iN h
    obtain ⟨c7633, h⟩ := h
    replace h := bd h
    obtain ⟨x7634, hx7634, h⟩ := h
    refine VL.open (m := l0_1.length) 0 lenm rfl (pos_get hx7634) <| ?_
    rintro ad7635 n7636 rfl
    refine va (op_indexAddr Try.underlying23 TI56 rfl rfl c7633 (lt_get c7633 hx7634) rfl) <| va (op_load_row (sz := 2) (o := 0) 0 i7605.toNat 2 rfl rfl (get_map hx7634) TI56 rfl (fun h => absurd h (by decide))) <|
     sG (o_alloc Z56 ZL56) fun g7637 => s1 (o_store 0 2 rfl rfl rfl TI56 (.agg (.of rfl)) rfl (len rfl)) <| nx <| va (op_fieldAddr FI56_0 rfl (add_at _ _ _)) <| va (op_load 0 1 rfl rfl TI3 rfl (by decide)) <| vm rfl <|
     VL.letter ((x7634.f0 == a1)) fun b7638 hb7638 => va (op_cmp rfl rfl (congrArg some hb7638)) <| dt <| ?_
    replace h := iC h
    rcases h with ⟨c7639, h⟩ | ⟨c7639, h⟩
    · obtain rfl : b7638 = true := hb7638.symm.trans (beq_iff_eq.2 c7639)
      refine ct <| rg <| va (op_fieldAddr FI56_1 rfl (add_at _ _ _)) <| va (op_load 0 1 rfl rfl TI9 rfl (by decide)) <| vs rfl <| dn <| VN.block <| tr <| va (op_ari64 rfl rfl rfl) <| vm rfl <| dn <| VN.again [] [] (ihl1 x7634.f1 (wrap64 (i7605 + 1)) h)
    obtain rfl : b7638 = false := hb7638.symm.trans (beq_eq_false_iff_ne.2 c7639)
    refine cf <| VC.skip <| VN.block <| tr <| va (op_ari64 rfl rfl rfl) <| vm rfl <| dn <| VN.again [] [] (ihl1 s7604 (wrap64 (i7605 + 1)) h)
  cases lF c7625 hb7623
  refine cf <| VC.exit <| VX.then <| VX.then <| VX.hit <| tx <| vm rfl <| vs rfl <| dt <| VC.ret <| ?_
  obtain rfl := Option.some.inj h
  exact rq 4 rfl ⟨rfl, rfl, rfl⟩

theorem tarryref05_Bytes.ok (k : Nat) (l0_0 : List ByteArray) (l0_1 : List S55) (a1 : Int) (a2 : Int) (v0_0 : Value) (v0_1 : Value) (r1 : ByteArray) (h : tarryref05_Bytes.f k l0_0 l0_1 a1 a2 = some r1) :
    VCalls Try.prog 30 [.agg #[v0_0, v0_1], iv a1, iv a2] [.row v0_0 1 (l0_0.map enc_str), .row v0_1 2 (l0_1.map enc55)] (fun v G own => v = .string r1 ∧ G = [] ∧ own = []) := by
  refine VCalls.intro Try.func30 rfl (len rfl) fun E hC hW hD hU => ?_
  unfold tarryref05_Bytes.f at h
  refine sr <| sG (o_box rfl (.agg (.f 0 rfl (.f 1 rfl .nil)))) fun g7526 => vs rfl <| nx <| va (op_fieldAddr FI25_0 rfl (add_at _ _ _)) <| va (op_load 0 1 rfl rfl TI22 rfl (by decide)) <| va (op_len (m := l0_0.length) 0 lenm Try.underlying22 rfl rfl) <| va (op_ari64 rfl rfl rfl) <|
   va (op_quo rfl rfl (by decide) rfl) <| vs rfl <| nx <| vs rfl <| ds <| sr <| vs rfl <| dt <| VC.block <|
   VC.loop2 (fun (s7666 : ByteArray) (i7667 : Int) => ⟨33, [(1, iv a1), (2, iv a2), (3, pt g7526 0), (6, .string (⟨#[]⟩ : ByteArray)), (7, iv (IntKind.i64.wrap ((wrap64 ((l0_0.length : Int) - 2)).tdiv 2))), (8, .string s7666), (9, iv i7667)], [.row v0_0 1 (l0_0.map enc_str), .row v0_1 2 (l0_1.map enc55)], [(g7526, 25, [v0_0, v0_1])], []⟩) (fun (ml1 : Nat) (s7666 : ByteArray) (i7667 : Int) => tarryref05_Bytes.l1 k a1 a2 l0_0 l0_1 ml1 s7666 i7667 = some r1) k (⟨#[]⟩ : ByteArray) 0 [0] [] h ⟨rfl, ⟨rfl, rfl, rfl, rfl, rfl, rfl, rfl, trivial⟩, ⟨⟨0, rfl⟩, ⟨1, rfl⟩, trivial⟩, rfl, by decide, rfl, by decide⟩ (by intros; simp [tarryref05_Bytes.l1]) <|
   ?_
  clear h
  intro ml1 ihl1 s7666 i7667 h
  simp only [tarryref05_Bytes.l1] at h
  refine sq <| sr <| vm rfl <| vm rfl <| VL.letter (decide (i7667 < (IntKind.i64.wrap ((wrap64 ((l0_0.length : Int) - 2)).tdiv 2)))) fun b7679 hb7679 => va (op_cmp rfl rfl (congrArg some hb7679)) <| dt <| ?_
  replace h := iC h
  rcases h with ⟨c7680, h⟩ | ⟨c7680, h⟩
  · cases lT c7680 hb7679
    refine ct <| sk <| sq <| VC.block <| rg <| vm rfl <| va (op_load 0 2 rfl rfl TI25 rfl (fun h => absurd h (by decide))) <| vm rfl <| vm rfl <| va (op_ari64 rfl rfl rfl) <| va (op_ari64 rfl rfl rfl) <| vm rfl <| va (op_ari64 rfl rfl rfl) <| ?_
    replace h := bd h
    obtain ⟨t7681, hA7682, h⟩ := h
    refine sC (o_call0 FO62 (tarryref03_Get.ok k l0_0 l0_1 (wrap64 ((wrap64 (2 + (wrap64 (a1 * (IntKind.i64.wrap ((wrap64 ((l0_0.length : Int) - 2)).tdiv 2)))))) + i7667)) v0_0 v0_1 t7681 hA7682) rfl rfl (ltn rfl) (All_of (.cons (mG 0 rfl) (.cons (mG 1 rfl) .nil)))) <| ?_
    rintro _ _ _ ⟨rfl, rfl, rfl⟩
    replace h := iN h
    obtain ⟨c7683, h⟩ := h
    refine va (op_adds rfl rfl rfl c7683) <| vs rfl <| dn <| VN.block <| tr <| vm rfl <| va (op_ari64 rfl rfl rfl) <| vs rfl <| dn <| VN.again [0] [] (ihl1 (s7666 ++ t7681) (wrap64 (i7667 + 1)) h)
  cases lF c7680 hb7679
  refine cf <| VC.exit <| VX.then <| VX.then <| VX.hit <| tx <| vm rfl <| vm rfl <| ?_
  replace h := iN h
  obtain ⟨c7684, h⟩ := h
  replace h := iN h
  obtain ⟨c7685, h⟩ := h
  refine va (op_sliceS 0 a2.toNat Try.underlying9 rfl ⟨rfl, ⟨_, _, rfl, c7684, rfl⟩, Nat.zero_le _, tN (a := a2) (b := (s7666.size : Int)) rfl rfl c7685⟩ rfl) <| vs rfl <| dt <| VC.ret <| ?_
  obtain rfl := Option.some.inj h
  exact rq 6 rfl ⟨rfl, rfl, rfl⟩

theorem tarryref01_May.ok (a0 : Int)  (r1 : Bool) (h : tarryref01_May.f a0 = some r1) :
    VCalls Try.prog 79 [iv a0] [] (fun v G own => v = .bool r1 ∧ G = [] ∧ own = []) := by
  refine VCalls.intro Try.func79 rfl (len rfl) fun E hC hW hD hU => ?_
  unfold tarryref01_May.f at h
  refine sr <| vs rfl <| nx <| vm rfl <| VL.letter (decide (a0 ≥ (-1152921504606846976))) fun b7933 hb7933 => va (op_cmp rfl rfl (congrArg some hb7933)) <| vm rfl <| ?_
  replace h := iC h
  rcases h with ⟨c7934, h⟩ | ⟨c7934, h⟩
  · cases lT c7934 hb7933
    refine vm rfl <| VL.letter (decide (a0 ≤ 1152921504606846976)) fun b7935 hb7935 => va (op_cmp rfl rfl (congrArg some hb7935)) <| va (op_pick rfl rfl) <| vs rfl <| dt <| VC.ret <| ?_
    obtain rfl := Option.some.inj h
    subst hb7935
    exact rq 2 rfl ⟨rfl, rfl, rfl⟩
  cases lF c7934 hb7933
  refine un rfl <| un rfl <| va (op_pick rfl rfl) <| vs rfl <| dt <| VC.ret <| ?_
  obtain rfl := Option.some.inj h
  exact rq 2 rfl ⟨rfl, rfl, rfl⟩

theorem tarryref01_ReadNumber.ok (k : Nat) (a0 : ByteArray)  (r1 : Int) (r2 : ByteArray) (r3 : Int) (h : tarryref01_ReadNumber.f k a0 = some (r1, r2, r3)) :
    VCalls Try.prog 63 [.string a0] [] (fun v G own => v = .agg #[iv r1, .string r2, iv r3] ∧ G = [] ∧ own = []) := by
  refine VCalls.intro Try.func63 rfl (len rfl) fun E hC hW hD hU => ?_
  unfold tarryref01_ReadNumber.f at h
  refine sr <| sG (o_alloc Z105 ZL105) fun g7694 => nx <| vs rfl <| dt <|
   VC.join1 (fun (i21598 : Int) => ⟨79, [(0, .string a0), (2, pt g7694 0), (3, iv i21598)], [], [(g7694, 105, [iv 0, .string (⟨#[]⟩ : ByteArray), iv 0])], []⟩) (fun (i21598 : Int) => tarryref01_ReadNumber.j184 k a0 i21598 = some (r1, r2, r3)) ?_ ?_
  · refine sr <| vs rfl <| dt <| VC.block <| VC.loop2 (fun (i21524 : Int) (i21525 : Int) => ⟨79, [(0, .string a0), (2, pt g7694 0), (3, iv i21524), (4, iv i21525)], [], [(g7694, 105, [iv 0, .string (⟨#[]⟩ : ByteArray), iv 0])], []⟩) (fun (ml185 : Nat) (i21524 : Int) (i21525 : Int) => tarryref01_ReadNumber.l185 k a0 ml185 i21524 i21525 = some (r1, r2, r3)) k (-1) 0 [0] [] h ⟨rfl, ⟨rfl, rfl, rfl, rfl, trivial⟩, trivial, rfl, by decide, rfl, by decide⟩ (by intros; simp [tarryref01_ReadNumber.l185]) <|
     ?_
    clear h
    intro ml185 ihl185 i21524 i21525 h
    simp only [tarryref01_ReadNumber.l185] at h
    refine sq <| sr <| vm rfl <| vm rfl <| va (op_lens Try.underlying9 rfl) <| VL.letter (decide (i21525 < (a0.size : Int))) fun b21572 hb21572 => va (op_cmp rfl rfl (congrArg some hb21572)) <| vm rfl <| ?_
    replace h := iC h
    rcases h with ⟨c21573, h⟩ | ⟨c21573, h⟩
    · cases lT c21573 hb21572
      refine vm rfl <| VL.letter (decide (i21525 < 9)) fun b21574 hb21574 => va (op_cmp rfl rfl (congrArg some hb21574)) <| va (op_pick rfl rfl) <| dt <| ?_
      replace h := iC h
      rcases h with ⟨c21575, h⟩ | ⟨c21575, h⟩
      · cases lT c21575 hb21574
        refine ct <| sk <| sq <| VC.block <| sr <| vm rfl <| VL.letter (decide (i21524 < 0)) fun b21592 hb21592 => va (op_cmp rfl rfl (congrArg some hb21592)) <| vm rfl <| ?_
        replace h := iC h
        rcases h with ⟨c21593, h⟩ | ⟨c21593, h⟩
        · cases lT c21593 hb21592
          refine vm rfl <| vm rfl <| ?_
          replace h := iN h
          obtain ⟨c21594, h⟩ := h
          replace h := iN h
          obtain ⟨c21595, h⟩ := h
          refine va (op_indexS Try.underlying9 rfl rfl c21594 c21595 rfl) <| VL.letter (decide ((bt a0 i21525) < 128)) fun b21596 hb21596 => va (op_cmp rfl rfl (congrArg some hb21596)) <| va (op_pick rfl rfl) <| dt <| ?_
          replace h := iC h
          rcases h with ⟨c21597, h⟩ | ⟨c21597, h⟩
          · cases lT c21597 hb21596
            refine ct <| rg <| vm rfl <| vs rfl <| dn <| VN.block <| tr <| vm rfl <| va (op_ari64 rfl rfl rfl) <| vs rfl <| dn <| VN.again [0] [] (ihl185 i21525 (wrap64 (i21525 + 1)) h)
          cases lF c21597 hb21596
          refine cf <| VC.skip <| VN.block <| tr <| vm rfl <| va (op_ari64 rfl rfl rfl) <| vs rfl <| dn <| VN.again [0] [] (ihl185 i21524 (wrap64 (i21525 + 1)) h)
        cases lF c21593 hb21592
        refine un rfl <| un rfl <| un rfl <| un rfl <| va (op_pick rfl rfl) <| dt <| cf <| VC.skip <| VN.block <| tr <| vm rfl <| va (op_ari64 rfl rfl rfl) <| vs rfl <| dn <| VN.again [0] [] (ihl185 i21524 (wrap64 (i21525 + 1)) h)
      cases lF c21575 hb21574
      refine cf <| VC.exit <| VX.then <| VX.then <| VX.hit <| VN.meet1 i21524 [0] [] h
    cases lF c21573 hb21572
    refine un rfl <| un rfl <| va (op_pick rfl rfl) <| dt <| cf <| VC.exit <| VX.then <| VX.then <| VX.hit <| VN.meet1 i21524 [0] [] h
  clear h
  intro i21598 h
  unfold tarryref01_ReadNumber.j184 at h
  refine VC.join0 (⟨79, [(0, .string a0), (2, pt g7694 0), (3, iv i21598)], [], [(g7694, 105, [iv 0, .string (⟨#[]⟩ : ByteArray), iv 0])], []⟩) (tarryref01_ReadNumber.j208 k a0 i21598 = some (r1, r2, r3)) ?_ ?_
  · refine sr <| vm rfl <| VL.letter (decide (i21598 < 0)) fun b23296 hb23296 => va (op_cmp rfl rfl (congrArg some hb23296)) <| vm rfl <| ?_
    replace h := iC h
    rcases h with ⟨c23297, h⟩ | ⟨c23297, h⟩
    · cases lT c23297 hb23296
      refine vm rfl <| va (op_lens Try.underlying9 rfl) <| VL.letter (decide ((a0.size : Int) ≥ 9)) fun b23298 hb23298 => va (op_cmp rfl rfl (congrArg some hb23298)) <| va (op_pick rfl rfl) <| dt <| ?_
      replace h := iC h
      rcases h with ⟨c23299, h⟩ | ⟨c23299, h⟩
      · cases lT c23299 hb23298
        refine ct <| sr <| va (op_build (vals := [(2, iv 3)]) (vcs := [(2, [iv 3])]) (cells := [iv 0, .string (⟨#[]⟩ : ByteArray), iv 3]) SI105 rfl (.cons ⟨rfl, (.c rfl)⟩ .nil) (by kernel_rfl)) <| s1 (o_store 0 3 rfl rfl rfl TI105 (.agg (.of rfl)) rfl (len rfl)) <| dt <|
         VC.ret <| VR.then <| ?_
        simp only [Option.some.injEq, Prod.mk.injEq] at h
        obtain ⟨rfl, rfl, rfl⟩ := h
        exact rf [.cell 2 105] [] (.cell 0 rfl rfl TI105 (fun h => absurd h (by decide)) .nil) ⟨rfl, rfl, rfl⟩
      cases lF c23299 hb23298
      refine cf <| VC.skip <| VN.meet0 [0] [] h
    cases lF c23297 hb23296
    refine un rfl <| un rfl <| un rfl <| va (op_pick rfl rfl) <| dt <| cf <| VC.skip <| VN.meet0 [0] [] h
  clear h
  intro  h
  unfold tarryref01_ReadNumber.j208 at h
  refine sq <| sr <| vm rfl <| VL.letter (decide (i21598 < 0)) fun b23302 hb23302 => va (op_cmp rfl rfl (congrArg some hb23302)) <| dt <| ?_
  replace h := iC h
  rcases h with ⟨c23303, h⟩ | ⟨c23303, h⟩
  · cases lT c23303 hb23302
    refine ct <| sr <| va (op_build (vals := [(2, iv 4)]) (vcs := [(2, [iv 4])]) (cells := [iv 0, .string (⟨#[]⟩ : ByteArray), iv 4]) SI105 rfl (.cons ⟨rfl, (.c rfl)⟩ .nil) (by kernel_rfl)) <| s1 (o_store 0 3 rfl rfl rfl TI105 (.agg (.of rfl)) rfl (len rfl)) <| dt <|
     VC.ret <| VR.then <| ?_
    simp only [Option.some.injEq, Prod.mk.injEq] at h
    obtain ⟨rfl, rfl, rfl⟩ := h
    exact rf [.cell 2 105] [] (.cell 0 rfl rfl TI105 (fun h => absurd h (by decide)) .nil) ⟨rfl, rfl, rfl⟩
  cases lF c23303 hb23302
  refine cf <| sk <| sr <| vs rfl <| dt <| VC.join1 (fun (i23693 : Int) => ⟨79, [(0, .string a0), (2, pt g7694 0), (3, iv i21598), (5, iv i23693)], [], [(g7694, 105, [iv 0, .string (⟨#[]⟩ : ByteArray), iv 0])], []⟩) (fun (i23693 : Int) => tarryref01_ReadNumber.j213 k a0 i21598 i23693 = some (r1, r2, r3)) ?_ ?_
  · refine sr <| vm rfl <| vs rfl <| dt <| VC.block <|
     VC.loop2 (fun (i23679 : Int) (i23680 : Int) => ⟨79, [(0, .string a0), (2, pt g7694 0), (3, iv i21598), (5, iv i23679), (6, iv i23680)], [], [(g7694, 105, [iv 0, .string (⟨#[]⟩ : ByteArray), iv 0])], []⟩) (fun (ml214 : Nat) (i23679 : Int) (i23680 : Int) => tarryref01_ReadNumber.l214 k a0 i21598 ml214 i23679 i23680 = some (r1, r2, r3)) k 0 i21598 [0] [] h ⟨rfl, ⟨rfl, rfl, rfl, rfl, rfl, trivial⟩, trivial, rfl, by decide, rfl, by decide⟩ (by intros; simp [tarryref01_ReadNumber.l214]) <|
     ?_
    clear h
    intro ml214 ihl214 i23679 i23680 h
    simp only [tarryref01_ReadNumber.l214] at h
    refine sq <| sr <| vm rfl <| VL.letter (decide (i23680 ≥ 0)) fun b23689 hb23689 => va (op_cmp rfl rfl (congrArg some hb23689)) <| dt <| ?_
    replace h := iC h
    rcases h with ⟨c23690, h⟩ | ⟨c23690, h⟩
    · cases lT c23690 hb23689
      refine ct <| sk <| sq <| VC.block <| rg <| vm rfl <| va (op_ari64 rfl rfl rfl) <| vm rfl <| vm rfl <| ?_
      replace h := iN h
      obtain ⟨c23691, h⟩ := h
      replace h := iN h
      obtain ⟨c23692, h⟩ := h
      refine va (op_indexS Try.underlying9 rfl rfl c23691 c23692 rfl) <| va (op_rem rfl rfl (by decide) rfl) <| va (op_conv Try.underlying5 Try.underlying3 rfl (i64w _)) <| va (op_ari64 rfl rfl rfl) <| vs rfl <| dn <| VN.block <| tr <| vm rfl <| va (op_ari64 rfl rfl rfl) <| vs rfl <| dn <|
       VN.again [0] [] (ihl214 (wrap64 ((wrap64 (128 * i23679)) + (wrap64 ((bt a0 i23680).tmod 128)))) (wrap64 (i23680 - 1)) h)
    cases lF c23690 hb23689
    refine cf <| VC.exit <| VX.then <| VX.then <| VX.hit <| VN.meet1 i23679 [0] [] h
  clear h
  intro i23693 h
  unfold tarryref01_ReadNumber.j213 at h
  refine sr <| vm rfl <| va (op_quo rfl rfl (by decide) rfl) <| vs rfl <| dt <|
   VC.join1 (fun (i23805 : Int) => ⟨79, [(0, .string a0), (2, pt g7694 0), (3, iv i21598), (7, iv i23805)], [], [(g7694, 105, [iv 0, .string (⟨#[]⟩ : ByteArray), iv 0])], []⟩) (fun (i23805 : Int) => tarryref01_ReadNumber.j215 k a0 i21598 i23805 = some (r1, r2, r3)) ?_ ?_
  · refine sr <| vm rfl <| va (op_rem rfl rfl (by decide) rfl) <| VL.letter (((i23693.tmod 2) == 1)) fun b23803 hb23803 => va (op_cmp rfl rfl (congrArg some hb23803)) <| dt <| ?_
    replace h := iC h
    rcases h with ⟨c23804, h⟩ | ⟨c23804, h⟩
    · obtain rfl : b23803 = true := hb23803.symm.trans (beq_iff_eq.2 c23804)
      refine ct <| rg <| vm rfl <| va (op_ari64 rfl rfl rfl) <| va (op_ari64 rfl rfl rfl) <| vs rfl <| dn <| VN.meet1 (wrap64 ((wrap64 (0 - (IntKind.i64.wrap (i23693.tdiv 2)))) - 1)) [0] [] h
    obtain rfl : b23803 = false := hb23803.symm.trans (beq_eq_false_iff_ne.2 c23804)
    refine cf <| VC.skip <| VN.meet1 (IntKind.i64.wrap (i23693.tdiv 2)) [0] [] h
  clear h
  intro i23805 h
  unfold tarryref01_ReadNumber.j215 at h
  refine sq <| sr <| vm rfl <| vm rfl <| ?_
  replace h := iN h
  obtain ⟨c23842, h⟩ := h
  replace h := iN h
  obtain ⟨c23843, h⟩ := h
  refine va (op_indexS Try.underlying9 rfl rfl c23842 c23843 rfl) <| VL.letter (((bt a0 i21598) == 0)) fun b23844 hb23844 => va (op_cmp rfl rfl (congrArg some hb23844)) <| vm rfl <| ?_
  replace h := iC h
  rcases h with ⟨c23845, h⟩ | ⟨c23845, h⟩
  · obtain rfl : b23844 = true := hb23844.symm.trans (beq_iff_eq.2 c23845)
    refine vm rfl <| VL.letter (decide (i21598 > 0)) fun b23846 hb23846 => va (op_cmp rfl rfl (congrArg some hb23846)) <| va (op_pick rfl rfl) <| vm rfl <| ?_
    replace h := iC h
    rcases h with ⟨c23847, h⟩ | ⟨c23847, h⟩
    · cases lT c23847 hb23846
      refine un rfl <| un rfl <| un rfl <| va (op_pick rfl rfl) <| dt <| ct <| sr <| va (op_build (vals := [(2, iv 5)]) (vcs := [(2, [iv 5])]) (cells := [iv 0, .string (⟨#[]⟩ : ByteArray), iv 5]) SI105 rfl (.cons ⟨rfl, (.c rfl)⟩ .nil) (by kernel_rfl)) <|
       s1 (o_store 0 3 rfl rfl rfl TI105 (.agg (.of rfl)) rfl (len rfl)) <| dt <| VC.ret <| VR.then <| ?_
      simp only [Option.some.injEq, Prod.mk.injEq] at h
      obtain ⟨rfl, rfl, rfl⟩ := h
      exact rf [.cell 2 105] [] (.cell 0 rfl rfl TI105 (fun h => absurd h (by decide)) .nil) ⟨rfl, rfl, rfl⟩
    cases lF c23847 hb23846
    refine vm rfl <| ?_
    replace h := bd h
    obtain ⟨t23848, hA23849, h⟩ := h
    refine sC (o_call0 FO79 (tarryref01_May.ok i23805 t23848 hA23849) rfl rfl (ltn rfl) (All_of .nil)) <| ?_
    rintro _ _ _ ⟨rfl, rfl, rfl⟩
    replace h := iC h
    rcases h with ⟨c23850, h⟩ | ⟨c23850, h⟩
    · obtain rfl := c23850
      refine va (op_not rfl rfl) <| va (op_pick rfl rfl) <| dt <| cf <| sk <| sr <| vm rfl <| vm rfl <| vm rfl <| va (op_ari64 rfl rfl rfl) <| ?_
      replace h := iN h
      obtain ⟨c23851, h⟩ := h
      replace h := iN h
      obtain ⟨c23852, h⟩ := h
      refine va (op_sliceS ((wrap64 (i21598 + 1)).toNat) a0.size Try.underlying9 rfl ⟨⟨_, _, rfl, c23851, rfl⟩, rfl, tN (a := (wrap64 (i21598 + 1))) (b := (a0.size : Int)) rfl rfl c23852, Nat.le_refl _⟩ rfl) <|
       va (op_build (vals := [(0, iv i23805), (1, .string (a0.extract ((wrap64 (i21598 + 1)).toNat) a0.size))]) (vcs := [(0, [iv i23805]), (1, [.string (a0.extract ((wrap64 (i21598 + 1)).toNat) a0.size)])]) (cells := [iv i23805, .string (a0.extract ((wrap64 (i21598 + 1)).toNat) a0.size), iv 0]) SI105 rfl (.cons ⟨rfl, (.c rfl)⟩ (.cons ⟨rfl, (.c rfl)⟩ .nil)) (by kernel_rfl)) <|
       s1 (o_store 0 3 rfl rfl rfl TI105 (.agg (.of rfl)) rfl (len rfl)) <| dt <| VC.ret <| ?_
      simp only [Option.some.injEq, Prod.mk.injEq] at h
      obtain ⟨rfl, rfl, rfl⟩ := h
      exact rf [.cell 2 105] [] (.cell 0 rfl rfl TI105 (fun h => absurd h (by decide)) .nil) ⟨rfl, rfl, rfl⟩
    obtain rfl := Bool.eq_false_iff.2 c23850
    refine va (op_not rfl rfl) <| va (op_pick rfl rfl) <| dt <| ct <| sr <| va (op_build (vals := [(2, iv 5)]) (vcs := [(2, [iv 5])]) (cells := [iv 0, .string (⟨#[]⟩ : ByteArray), iv 5]) SI105 rfl (.cons ⟨rfl, (.c rfl)⟩ .nil) (by kernel_rfl)) <|
     s1 (o_store 0 3 rfl rfl rfl TI105 (.agg (.of rfl)) rfl (len rfl)) <| dt <| VC.ret <| VR.then <| ?_
    simp only [Option.some.injEq, Prod.mk.injEq] at h
    obtain ⟨rfl, rfl, rfl⟩ := h
    exact rf [.cell 2 105] [] (.cell 0 rfl rfl TI105 (fun h => absurd h (by decide)) .nil) ⟨rfl, rfl, rfl⟩
  obtain rfl : b23844 = false := hb23844.symm.trans (beq_eq_false_iff_ne.2 c23845)
  refine un rfl <| un rfl <| va (op_pick rfl rfl) <| vm rfl <| vm rfl <| ?_
  replace h := bd h
  obtain ⟨t23853, hA23854, h⟩ := h
  refine sC (o_call0 FO79 (tarryref01_May.ok i23805 t23853 hA23854) rfl rfl (ltn rfl) (All_of .nil)) <| ?_
  rintro _ _ _ ⟨rfl, rfl, rfl⟩
  replace h := iC h
  rcases h with ⟨c23855, h⟩ | ⟨c23855, h⟩
  · obtain rfl := c23855
    refine va (op_not rfl rfl) <| va (op_pick rfl rfl) <| dt <| cf <| sk <| sr <| vm rfl <| vm rfl <| vm rfl <| va (op_ari64 rfl rfl rfl) <| ?_
    replace h := iN h
    obtain ⟨c23856, h⟩ := h
    replace h := iN h
    obtain ⟨c23857, h⟩ := h
    refine va (op_sliceS ((wrap64 (i21598 + 1)).toNat) a0.size Try.underlying9 rfl ⟨⟨_, _, rfl, c23856, rfl⟩, rfl, tN (a := (wrap64 (i21598 + 1))) (b := (a0.size : Int)) rfl rfl c23857, Nat.le_refl _⟩ rfl) <|
     va (op_build (vals := [(0, iv i23805), (1, .string (a0.extract ((wrap64 (i21598 + 1)).toNat) a0.size))]) (vcs := [(0, [iv i23805]), (1, [.string (a0.extract ((wrap64 (i21598 + 1)).toNat) a0.size)])]) (cells := [iv i23805, .string (a0.extract ((wrap64 (i21598 + 1)).toNat) a0.size), iv 0]) SI105 rfl (.cons ⟨rfl, (.c rfl)⟩ (.cons ⟨rfl, (.c rfl)⟩ .nil)) (by kernel_rfl)) <|
     s1 (o_store 0 3 rfl rfl rfl TI105 (.agg (.of rfl)) rfl (len rfl)) <| dt <| VC.ret <| ?_
    simp only [Option.some.injEq, Prod.mk.injEq] at h
    obtain ⟨rfl, rfl, rfl⟩ := h
    exact rf [.cell 2 105] [] (.cell 0 rfl rfl TI105 (fun h => absurd h (by decide)) .nil) ⟨rfl, rfl, rfl⟩
  obtain rfl := Bool.eq_false_iff.2 c23855
  refine va (op_not rfl rfl) <| va (op_pick rfl rfl) <| dt <| ct <| sr <| va (op_build (vals := [(2, iv 5)]) (vcs := [(2, [iv 5])]) (cells := [iv 0, .string (⟨#[]⟩ : ByteArray), iv 5]) SI105 rfl (.cons ⟨rfl, (.c rfl)⟩ .nil) (by kernel_rfl)) <|
   s1 (o_store 0 3 rfl rfl rfl TI105 (.agg (.of rfl)) rfl (len rfl)) <| dt <| VC.ret <| VR.then <| ?_
  simp only [Option.some.injEq, Prod.mk.injEq] at h
  obtain ⟨rfl, rfl, rfl⟩ := h
  exact rf [.cell 2 105] [] (.cell 0 rfl rfl TI105 (fun h => absurd h (by decide)) .nil) ⟨rfl, rfl, rfl⟩

theorem tarryref02_Off.ok (k : Nat) (a0 : Int)  (r1 : Int) (h : tarryref02_Off.f k a0 = some r1) :
    VCalls Try.prog 93 [.int .u32 a0] [] (fun v G own => v = .int .u32 r1 ∧ G = [] ∧ own = []) := by
  refine VCalls.intro Try.func93 rfl (len rfl) fun E hC hW hD hU => ?_
  unfold tarryref02_Off.f at h
  refine sr <| vs rfl <| ds <| sr <| vs rfl <| dt <| VC.block <|
   VC.loop2 (fun (i23929 : Int) (i23930 : Int) => ⟨17, [(0, .int .u32 i23929), (2, .int .u32 0), (3, iv i23930)], [], [], []⟩) (fun (ml1 : Nat) (i23929 : Int) (i23930 : Int) => tarryref02_Off.l1 k ml1 i23929 i23930 = some r1) k a0 0 [] [] h ⟨rfl, ⟨rfl, rfl, rfl, trivial⟩, trivial, rfl, by decide, rfl, by decide⟩ (by intros; simp [tarryref02_Off.l1]) <|
   ?_
  clear h
  intro ml1 ihl1 i23929 i23930 h
  simp only [tarryref02_Off.l1] at h
  refine sq <| sr <| vm rfl <| VL.letter (decide (i23930 < 8)) fun b23941 hb23941 => va (op_cmp rfl rfl (congrArg some hb23941)) <| dt <| ?_
  replace h := iC h
  rcases h with ⟨c23942, h⟩ | ⟨c23942, h⟩
  · cases lT c23942 hb23941
    refine ct <| sk <| sq <| VC.block <| sr <| vm rfl <| va (op_rem rfl rfl (by decide) rfl) <| VL.letter (((i23929.tmod 2) == 1)) fun b23945 hb23945 => va (op_cmp rfl rfl (congrArg some hb23945)) <| dt <| ?_
    replace h := iC h
    rcases h with ⟨c23946, h⟩ | ⟨c23946, h⟩
    · obtain rfl : b23945 = true := hb23945.symm.trans (beq_iff_eq.2 c23946)
      refine ct <| rg <| vm rfl <| va (op_quo rfl rfl (by decide) rfl) <| va (op_bits rfl rfl rfl) <| vs rfl <| dn <| VN.block <| tr <| vm rfl <| va (op_ari64 rfl rfl rfl) <| vs rfl <| dn <| VN.again [] [] (ihl1 (Go.bits .xor .u32 (IntKind.u32.wrap (i23929.tdiv 2)) 2197175160) (wrap64 (i23930 + 1)) h)
    obtain rfl : b23945 = false := hb23945.symm.trans (beq_eq_false_iff_ne.2 c23946)
    refine cf <| rg <| vm rfl <| va (op_quo rfl rfl (by decide) rfl) <| vs rfl <| dn <| VN.block <| tr <| vm rfl <| va (op_ari64 rfl rfl rfl) <| vs rfl <| dn <| VN.again [] [] (ihl1 (IntKind.u32.wrap (i23929.tdiv 2)) (wrap64 (i23930 + 1)) h)
  cases lF c23942 hb23941
  refine cf <| VC.exit <| VX.then <| VX.then <| VX.hit <| tx <| vm rfl <| vs rfl <| dt <| VC.ret <| ?_
  obtain rfl := Option.some.inj h
  exact rq 2 rfl ⟨rfl, rfl, rfl⟩

theorem tarryref02_On.ok (k : Nat) (a0 : Int) (a1 : ByteArray)  (r1 : Int) (h : tarryref02_On.f k a0 a1 = some r1) :
    VCalls Try.prog 80 [.int .u32 a0, .string a1] [] (fun v G own => v = .int .u32 r1 ∧ G = [] ∧ own = []) := by
  refine VCalls.intro Try.func80 rfl (len rfl) fun E hC hW hD hU => ?_
  unfold tarryref02_On.f at h
  refine sr <| vs rfl <| nx <| vm rfl <| va (op_ari rfl rfl rfl) <| vs rfl <| ds <| sr <| vs rfl <| dt <| VC.block <|
   VC.loop2 (fun (i23974 : Int) (i23975 : Int) => ⟨23, [(0, .int .u32 i23974), (1, .string a1), (4, .int .u32 0), (5, iv i23975)], [], [], []⟩) (fun (ml1 : Nat) (i23974 : Int) (i23975 : Int) => tarryref02_On.l1 k a1 ml1 i23974 i23975 = some r1) k (IntKind.u32.wrap (4294967295 - a0)) 0 [] [] h ⟨rfl, ⟨rfl, rfl, rfl, rfl, trivial⟩, trivial, rfl, by decide, rfl, by decide⟩ (by intros; simp [tarryref02_On.l1]) <|
   ?_
  clear h
  intro ml1 ihl1 i23974 i23975 h
  simp only [tarryref02_On.l1] at h
  refine sq <| sr <| vm rfl <| vm rfl <| va (op_lens Try.underlying9 rfl) <| VL.letter (decide (i23975 < (a1.size : Int))) fun b23986 hb23986 => va (op_cmp rfl rfl (congrArg some hb23986)) <| dt <| ?_
  replace h := iC h
  rcases h with ⟨c23987, h⟩ | ⟨c23987, h⟩
  · cases lT c23987 hb23986
    refine ct <| sk <| sq <| VC.block <| rg <| vm rfl <| vm rfl <| vm rfl <| ?_
    replace h := iN h
    obtain ⟨c23988, h⟩ := h
    replace h := iN h
    obtain ⟨c23989, h⟩ := h
    refine va (op_indexS Try.underlying9 rfl rfl c23988 c23989 rfl) <| va (op_conv Try.underlying5 Try.underlying108 rfl rfl) <| va (op_bits rfl rfl rfl) <| ?_
    replace h := bd h
    obtain ⟨t23990, hA23991, h⟩ := h
    refine sC (o_call0 FO93 (tarryref02_Off.ok k (Go.bits .xor .u32 i23974 (IntKind.u32.wrap (bt a1 i23975))) t23990 hA23991) rfl rfl (ltn rfl) (All_of .nil)) <| ?_
    rintro _ _ _ ⟨rfl, rfl, rfl⟩
    refine vs rfl <| dn <| VN.block <| tr <| vm rfl <| va (op_ari64 rfl rfl rfl) <| vs rfl <| dn <| VN.again [] [] (ihl1 t23990 (wrap64 (i23975 + 1)) h)
  cases lF c23987 hb23986
  refine cf <| VC.exit <| VX.then <| VX.then <| VX.hit <| tx <| vm rfl <| va (op_ari rfl rfl rfl) <| vs rfl <| dt <| VC.ret <| ?_
  obtain rfl := Option.some.inj h
  exact rq 4 rfl ⟨rfl, rfl, rfl⟩

theorem tarryref02_Of.ok (k : Nat) (a0 : ByteArray)  (r1 : Int) (h : tarryref02_Of.f k a0 = some r1) :
    VCalls Try.prog 65 [.string a0] [] (fun v G own => v = .int .u32 r1 ∧ G = [] ∧ own = []) := by
  refine VCalls.intro Try.func65 rfl (len rfl) fun E hC hW hD hU => ?_
  unfold tarryref02_Of.f at h
  refine sr <| vs rfl <| nx <| vm rfl <| ?_
  replace h := bd h
  obtain ⟨t23992, hA23993, h⟩ := h
  refine sC (o_call0 FO80 (tarryref02_On.ok k 0 a0 t23992 hA23993) rfl rfl (ltn rfl) (All_of .nil)) <| ?_
  rintro _ _ _ ⟨rfl, rfl, rfl⟩
  refine vs rfl <| dt <| VC.ret <| ?_
  obtain rfl := Option.some.inj h
  exact rq 2 rfl ⟨rfl, rfl, rfl⟩

theorem tarryref02_Bytes.ok (k : Nat) (a0 : Int)  (r1 : ByteArray) (h : tarryref02_Bytes.f k a0 = some r1) :
    VCalls Try.prog 64 [.int .u32 a0] [] (fun v G own => v = .string r1 ∧ G = [] ∧ own = []) := by
  refine VCalls.intro Try.func64 rfl (len rfl) fun E hC hW hD hU => ?_
  unfold tarryref02_Bytes.f at h
  refine sr <| vs rfl <| nx <| sG (o_buildSlice (vals := []) (cells := #[]) (es := List.map enc_intu8 ([] : List Int)) Try.underlying41 TI5 Z5 rfl (by decide) (by decide) (by kernel_rfl) (by kernel_rfl) rfl (flat_map enc_intu8_ok _)) fun v23997 => vs rfl <| ds <| sr <| vs rfl <| dt <| VC.block <|
   VC.loop4 (fun (i24031 : Int) (v24033 : Value) (l24034 : List Int) (i24035 : Int) => ⟨20, [(0, .int .u32 i24031), (2, .string (⟨#[]⟩ : ByteArray)), (3, v24033), (4, iv i24035)], [], [], [(v24033, 5, 1, l24034.map enc_intu8)]⟩) (fun (ml1 : Nat) (i24031 : Int) (v24033 : Value) (l24034 : List Int) (i24035 : Int) => tarryref02_Bytes.l1 k ml1 i24031 l24034 i24035 = some r1) k a0 v23997 ([] : List Int) 0 [] [0] h ⟨rfl, ⟨rfl, rfl, rfl, rfl, trivial⟩, trivial, rfl, by decide, rfl, by decide⟩ (by intros; simp [tarryref02_Bytes.l1]) <|
   ?_
  clear h
  intro ml1 ihl1 i24031 v24033 l24034 i24035 h
  simp only [tarryref02_Bytes.l1] at h
  refine sq <| sr <| vm rfl <| VL.letter (decide (i24035 < 4)) fun b24047 hb24047 => va (op_cmp rfl rfl (congrArg some hb24047)) <| dt <| ?_
  replace h := iC h
  rcases h with ⟨c24048, h⟩ | ⟨c24048, h⟩
  · cases lT c24048 hb24047
    refine ct <| sk <| sq <| VC.block <| sr <| vm rfl <| vm rfl <| va (op_rem rfl rfl (by decide) rfl) <| va (op_conv Try.underlying108 Try.underlying5 rfl rfl) <|
     sG (o_buildSlice (vals := [(0, .int .u8 (IntKind.u8.wrap (i24031.tmod 256)))]) (cells := #[.int .u8 (IntKind.u8.wrap (i24031.tmod 256))]) (es := List.map enc_intu8 ([IntKind.u8.wrap (i24031.tmod 256)] : List Int)) Try.underlying41 TI5 Z5 rfl (by decide) (by decide) (by kernel_rfl) (by kernel_rfl) rfl (flat_map enc_intu8_ok _)) fun v24050 => ?_
    replace h := iN h
    obtain ⟨c24051, h⟩ := h
    refine sG (o_append 1 appm Try.underlying41 EI5 rfl rfl rfl (.inr ⟨0, _, rfl⟩) (bndm c24051)) fun v24052 => vs rfl <| dr <| vm rfl <| va (op_quo rfl rfl (by decide) rfl) <| vs rfl <| dn <| VN.block <| tr <| vm rfl <| va (op_ari64 rfl rfl rfl) <| vs rfl <| dn <|
     VN.again [] [1] (ihl1 (IntKind.u32.wrap (i24031.tdiv 256)) v24052 (l24034 ++ ([IntKind.u8.wrap (i24031.tmod 256)] : List Int)) (wrap64 (i24035 + 1)) h)
  cases lF c24048 hb24047
  refine cf <| VC.exit <| VX.then <| VX.then <| VX.hit <| tx <| vm rfl <| va (op_bytesStr_own (xs := l24034) 0 rfl rfl Try.underlying41 Try.underlying9 Try.underlying5 rfl rfl) <| vs rfl <| dt <| VC.ret <| ?_
  obtain rfl := Option.some.inj h
  exact rq 2 rfl ⟨rfl, rfl, rfl⟩

end Go.Proofs.Ytipeglbeongfmaa.PJournalOpens
