/- Written by a program of this repo: what the program's functions do, each as a Lean function, shown of the loaded code; or a statement's row over that; no condition of its own. -/
import Derived.Test.YtipeglbeongfmaaGreatPJournalCrashesx12
namespace Go.Proofs.YtipeglbeongfmaaGreat.PJournalCrashes
open Go Go.RowKit Go.Proofs.YtipeglbeongfmaaGreatV
set_option linter.unusedVariables false
set_option linter.unusedSimpArgs false
set_option maxHeartbeats 4000000
set_option maxRecDepth 100000

theorem tarryref03_Get.ok (k : Nat) (l0_0 : List ByteArray) (l0_1 : List S71) (a1 : Int) (v0_0 : Value) (v0_1 : Value) (r1 : ByteArray) (h : tarryref03_Get.f k l0_0 l0_1 a1 = some r1) :
    VCalls Tryz.prog 78 [.agg #[v0_0, v0_1], iv a1] [.row v0_0 1 (l0_0.map enc_str), .row v0_1 2 (l0_1.map enc71)] (fun v G own => v = .string r1 ∧ G = [] ∧ own = []) := by
  refine VCalls.intro Tryz.func78 rfl (len rfl) fun E hC hW hD hU => ?_
  unfold tarryref03_Get.f at h
  refine sr <| sG (o_box rfl (.agg (.f 0 rfl (.f 1 rfl .nil)))) fun g9808 => vs rfl <| nx <| va (op_fieldAddr FI25_0 rfl (add_at _ _ _)) <| va (op_load 0 1 rfl rfl TI22 rfl (by decide)) <| vm rfl <| ?_
  replace h := iN h
  obtain ⟨c9809, h⟩ := h
  replace h := bd h
  obtain ⟨x9810, hx9810, h⟩ := h
  refine VL.open (m := l0_0.length) 0 lenm rfl (pos_get hx9810) <| ?_
  rintro ad9811 n9812 rfl
  refine va (op_indexAddr Tryz.underlying22 TI9 rfl rfl c9809 (lt_get c9809 hx9810) rfl) <| va (op_load_row (sz := 1) (o := 0) 0 a1.toNat 1 rfl rfl (get_map hx9810) TI9 rfl (by decide)) <| vs rfl <| ds <| sr <| va (op_fieldAddr FI25_1 rfl (add_at _ _ _)) <|
   va (op_load 0 1 rfl rfl TI23 rfl (by decide)) <| va (op_len (m := l0_1.length) 1 lenm Tryz.underlying23 rfl rfl) <| vm rfl <| dt <| VC.block <|
   VC.loop2 (fun (s9879 : ByteArray) (i9880 : Int) => ⟨28, [(1, iv a1), (4, .string (⟨#[]⟩ : ByteArray)), (5, .string s9879), (14, v0_1), (15, iv (l0_1.length : Int)), (16, iv i9880)], [.row v0_1 2 (l0_1.map enc71)], [], []⟩) (fun (ml1 : Nat) (s9879 : ByteArray) (i9880 : Int) => tarryref03_Get.l1 k a1 l0_1 ml1 s9879 i9880 = some r1) k x9810 0 [] [] h ⟨rfl, ⟨rfl, rfl, rfl, rfl, rfl, rfl, trivial⟩, ⟨⟨1, rfl⟩, trivial⟩, rfl, by decide, rfl, by decide⟩ (by intros; simp [tarryref03_Get.l1]) <|
   ?_
  clear h
  intro ml1 ihl1 s9879 i9880 h
  simp only [tarryref03_Get.l1] at h
  refine sr <| VL.letter (decide (i9880 < (l0_1.length : Int))) fun b9898 hb9898 => va (op_cmp rfl rfl (congrArg some hb9898)) <| ds <| ?_
  replace h := iC h
  rcases h with ⟨c9900, h⟩ | ⟨c9900, h⟩
  · cases lT c9900 hb9898
    refine ct <| sk <| sq <| VC.block <| sr <| ?_
    replace h := iN h
    obtain ⟨c9908, h⟩ := h
    replace h := bd h
    obtain ⟨x9909, hx9909, h⟩ := h
    refine VL.open (m := l0_1.length) 0 lenm rfl (pos_get hx9909) <| ?_
    rintro ad9910 n9911 rfl
    refine va (op_indexAddr Tryz.underlying23 TI72 rfl rfl c9908 (lt_get c9908 hx9909) rfl) <| va (op_load_row (sz := 2) (o := 0) 0 i9880.toNat 2 rfl rfl (get_map hx9909) TI72 rfl (fun h => absurd h (by decide))) <|
     sG (o_alloc Z72 ZL72) fun g9912 => s1 (o_store 0 2 rfl rfl rfl TI72 (.agg (.of rfl)) rfl (len rfl)) <| nx <| va (op_fieldAddr FI72_0 rfl (add_at _ _ _)) <| va (op_load 0 1 rfl rfl TI3 rfl (by decide)) <| vm rfl <|
     VL.letter ((x9909.f0 == a1)) fun b9913 hb9913 => va (op_cmp rfl rfl (congrArg some hb9913)) <| dt <| ?_
    replace h := iC h
    rcases h with ⟨c9914, h⟩ | ⟨c9914, h⟩
    · obtain rfl : b9913 = true := hb9913.symm.trans (beq_iff_eq.2 c9914)
      refine ct <| rg <| va (op_fieldAddr FI72_1 rfl (add_at _ _ _)) <| va (op_load 0 1 rfl rfl TI9 rfl (by decide)) <| vs rfl <| dn <| VN.block <| tr <| va (op_ari64 rfl rfl rfl) <| vm rfl <| dn <| VN.again [] [] (ihl1 x9909.f1 (wrap64 (i9880 + 1)) h)
    obtain rfl : b9913 = false := hb9913.symm.trans (beq_eq_false_iff_ne.2 c9914)
    refine cf <| VC.skip <| VN.block <| tr <| va (op_ari64 rfl rfl rfl) <| vm rfl <| dn <| VN.again [] [] (ihl1 s9879 (wrap64 (i9880 + 1)) h)
  cases lF c9900 hb9898
  refine cf <| VC.exit <| VX.then <| VX.then <| VX.hit <| tx <| vm rfl <| vs rfl <| dt <| VC.ret <| ?_
  obtain rfl := Option.some.inj h
  exact rq 4 rfl ⟨rfl, rfl, rfl⟩

theorem tarryref05_Bytes.ok (k : Nat) (l0_0 : List ByteArray) (l0_1 : List S71) (a1 : Int) (a2 : Int) (v0_0 : Value) (v0_1 : Value) (r1 : ByteArray) (h : tarryref05_Bytes.f k l0_0 l0_1 a1 a2 = some r1) :
    VCalls Tryz.prog 59 [.agg #[v0_0, v0_1], iv a1, iv a2] [.row v0_0 1 (l0_0.map enc_str), .row v0_1 2 (l0_1.map enc71)] (fun v G own => v = .string r1 ∧ G = [] ∧ own = []) := by
  refine VCalls.intro Tryz.func59 rfl (len rfl) fun E hC hW hD hU => ?_
  unfold tarryref05_Bytes.f at h
  refine sr <| sG (o_box rfl (.agg (.f 0 rfl (.f 1 rfl .nil)))) fun g9801 => vs rfl <| nx <| va (op_fieldAddr FI25_0 rfl (add_at _ _ _)) <| va (op_load 0 1 rfl rfl TI22 rfl (by decide)) <| va (op_len (m := l0_0.length) 0 lenm Tryz.underlying22 rfl rfl) <| va (op_ari64 rfl rfl rfl) <|
   va (op_quo rfl rfl (by decide) rfl) <| vs rfl <| nx <| vs rfl <| ds <| sr <| vs rfl <| dt <| VC.block <|
   VC.loop2 (fun (s9941 : ByteArray) (i9942 : Int) => ⟨33, [(1, iv a1), (2, iv a2), (3, pt g9801 0), (6, .string (⟨#[]⟩ : ByteArray)), (7, iv (IntKind.i64.wrap ((wrap64 ((l0_0.length : Int) - 2)).tdiv 2))), (8, .string s9941), (9, iv i9942)], [.row v0_0 1 (l0_0.map enc_str), .row v0_1 2 (l0_1.map enc71)], [(g9801, 25, [v0_0, v0_1])], []⟩) (fun (ml1 : Nat) (s9941 : ByteArray) (i9942 : Int) => tarryref05_Bytes.l1 k a1 a2 l0_0 l0_1 ml1 s9941 i9942 = some r1) k (⟨#[]⟩ : ByteArray) 0 [0] [] h ⟨rfl, ⟨rfl, rfl, rfl, rfl, rfl, rfl, rfl, trivial⟩, ⟨⟨0, rfl⟩, ⟨1, rfl⟩, trivial⟩, rfl, by decide, rfl, by decide⟩ (by intros; simp [tarryref05_Bytes.l1]) <|
   ?_
  clear h
  intro ml1 ihl1 s9941 i9942 h
  simp only [tarryref05_Bytes.l1] at h
  refine sq <| sr <| vm rfl <| vm rfl <| VL.letter (decide (i9942 < (IntKind.i64.wrap ((wrap64 ((l0_0.length : Int) - 2)).tdiv 2)))) fun b9954 hb9954 => va (op_cmp rfl rfl (congrArg some hb9954)) <| dt <| ?_
  replace h := iC h
  rcases h with ⟨c9955, h⟩ | ⟨c9955, h⟩
  · cases lT c9955 hb9954
    refine ct <| sk <| sq <| VC.block <| rg <| vm rfl <| va (op_load 0 2 rfl rfl TI25 rfl (fun h => absurd h (by decide))) <| vm rfl <| vm rfl <| va (op_ari64 rfl rfl rfl) <| va (op_ari64 rfl rfl rfl) <| vm rfl <| va (op_ari64 rfl rfl rfl) <| ?_
    replace h := bd h
    obtain ⟨t9956, hA9957, h⟩ := h
    refine sC (o_call0 FO78 (tarryref03_Get.ok k l0_0 l0_1 (wrap64 ((wrap64 (2 + (wrap64 (a1 * (IntKind.i64.wrap ((wrap64 ((l0_0.length : Int) - 2)).tdiv 2)))))) + i9942)) v0_0 v0_1 t9956 hA9957) rfl rfl (ltn rfl) (All_of (.cons (mG 0 rfl) (.cons (mG 1 rfl) .nil)))) <| ?_
    rintro _ _ _ ⟨rfl, rfl, rfl⟩
    replace h := iN h
    obtain ⟨c9958, h⟩ := h
    refine va (op_adds rfl rfl rfl c9958) <| vs rfl <| dn <| VN.block <| tr <| vm rfl <| va (op_ari64 rfl rfl rfl) <| vs rfl <| dn <| VN.again [0] [] (ihl1 (s9941 ++ t9956) (wrap64 (i9942 + 1)) h)
  cases lF c9955 hb9954
  refine cf <| VC.exit <| VX.then <| VX.then <| VX.hit <| tx <| vm rfl <| vm rfl <| ?_
  replace h := iN h
  obtain ⟨c9959, h⟩ := h
  replace h := iN h
  obtain ⟨c9960, h⟩ := h
  refine va (op_sliceS 0 a2.toNat Tryz.underlying9 rfl ⟨rfl, ⟨_, _, rfl, c9959, rfl⟩, Nat.zero_le _, tN (a := a2) (b := (s9941.size : Int)) rfl rfl c9960⟩ rfl) <| vs rfl <| dt <| VC.ret <| ?_
  obtain rfl := Option.some.inj h
  exact rq 6 rfl ⟨rfl, rfl, rfl⟩

theorem tarryref01_May.ok (a0 : Int)  (r1 : Bool) (h : tarryref01_May.f a0 = some r1) :
    VCalls Tryz.prog 94 [iv a0] [] (fun v G own => v = .bool r1 ∧ G = [] ∧ own = []) := by
  refine VCalls.intro Tryz.func94 rfl (len rfl) fun E hC hW hD hU => ?_
  unfold tarryref01_May.f at h
  refine sr <| vs rfl <| nx <| vm rfl <| VL.letter (decide (a0 ≥ (-1152921504606846976))) fun b10208 hb10208 => va (op_cmp rfl rfl (congrArg some hb10208)) <| vm rfl <| ?_
  replace h := iC h
  rcases h with ⟨c10209, h⟩ | ⟨c10209, h⟩
  · cases lT c10209 hb10208
    refine vm rfl <| VL.letter (decide (a0 ≤ 1152921504606846976)) fun b10210 hb10210 => va (op_cmp rfl rfl (congrArg some hb10210)) <| va (op_pick rfl rfl) <| vs rfl <| dt <| VC.ret <| ?_
    obtain rfl := Option.some.inj h
    subst hb10210
    exact rq 2 rfl ⟨rfl, rfl, rfl⟩
  cases lF c10209 hb10208
  refine un rfl <| un rfl <| va (op_pick rfl rfl) <| vs rfl <| dt <| VC.ret <| ?_
  obtain rfl := Option.some.inj h
  exact rq 2 rfl ⟨rfl, rfl, rfl⟩

theorem tarryref01_ReadNumber.ok (k : Nat) (a0 : ByteArray)  (r1 : Int) (r2 : ByteArray) (r3 : Int) (h : tarryref01_ReadNumber.f k a0 = some (r1, r2, r3)) :
    VCalls Tryz.prog 79 [.string a0] [] (fun v G own => v = .agg #[iv r1, .string r2, iv r3] ∧ G = [] ∧ own = []) := by
  refine VCalls.intro Tryz.func79 rfl (len rfl) fun E hC hW hD hU => ?_
  unfold tarryref01_ReadNumber.f at h
  refine sr <| sG (o_alloc Z113 ZL113) fun g9969 => nx <| vs rfl <| dt <|
   VC.join1 (fun (i23873 : Int) => ⟨79, [(0, .string a0), (2, pt g9969 0), (3, iv i23873)], [], [(g9969, 113, [iv 0, .string (⟨#[]⟩ : ByteArray), iv 0])], []⟩) (fun (i23873 : Int) => tarryref01_ReadNumber.j184 k a0 i23873 = some (r1, r2, r3)) ?_ ?_
  · refine sr <| vs rfl <| dt <| VC.block <| VC.loop2 (fun (i23799 : Int) (i23800 : Int) => ⟨79, [(0, .string a0), (2, pt g9969 0), (3, iv i23799), (4, iv i23800)], [], [(g9969, 113, [iv 0, .string (⟨#[]⟩ : ByteArray), iv 0])], []⟩) (fun (ml185 : Nat) (i23799 : Int) (i23800 : Int) => tarryref01_ReadNumber.l185 k a0 ml185 i23799 i23800 = some (r1, r2, r3)) k (-1) 0 [0] [] h ⟨rfl, ⟨rfl, rfl, rfl, rfl, trivial⟩, trivial, rfl, by decide, rfl, by decide⟩ (by intros; simp [tarryref01_ReadNumber.l185]) <|
     ?_
    clear h
    intro ml185 ihl185 i23799 i23800 h
    simp only [tarryref01_ReadNumber.l185] at h
    refine sq <| sr <| vm rfl <| vm rfl <| va (op_lens Tryz.underlying9 rfl) <| VL.letter (decide (i23800 < (a0.size : Int))) fun b23847 hb23847 => va (op_cmp rfl rfl (congrArg some hb23847)) <| vm rfl <| ?_
    replace h := iC h
    rcases h with ⟨c23848, h⟩ | ⟨c23848, h⟩
    · cases lT c23848 hb23847
      refine vm rfl <| VL.letter (decide (i23800 < 9)) fun b23849 hb23849 => va (op_cmp rfl rfl (congrArg some hb23849)) <| va (op_pick rfl rfl) <| dt <| ?_
      replace h := iC h
      rcases h with ⟨c23850, h⟩ | ⟨c23850, h⟩
      · cases lT c23850 hb23849
        refine ct <| sk <| sq <| VC.block <| sr <| vm rfl <| VL.letter (decide (i23799 < 0)) fun b23867 hb23867 => va (op_cmp rfl rfl (congrArg some hb23867)) <| vm rfl <| ?_
        replace h := iC h
        rcases h with ⟨c23868, h⟩ | ⟨c23868, h⟩
        · cases lT c23868 hb23867
          refine vm rfl <| vm rfl <| ?_
          replace h := iN h
          obtain ⟨c23869, h⟩ := h
          replace h := iN h
          obtain ⟨c23870, h⟩ := h
          refine va (op_indexS Tryz.underlying9 rfl rfl c23869 c23870 rfl) <| VL.letter (decide ((bt a0 i23800) < 128)) fun b23871 hb23871 => va (op_cmp rfl rfl (congrArg some hb23871)) <| va (op_pick rfl rfl) <| dt <| ?_
          replace h := iC h
          rcases h with ⟨c23872, h⟩ | ⟨c23872, h⟩
          · cases lT c23872 hb23871
            refine ct <| rg <| vm rfl <| vs rfl <| dn <| VN.block <| tr <| vm rfl <| va (op_ari64 rfl rfl rfl) <| vs rfl <| dn <| VN.again [0] [] (ihl185 i23800 (wrap64 (i23800 + 1)) h)
          cases lF c23872 hb23871
          refine cf <| VC.skip <| VN.block <| tr <| vm rfl <| va (op_ari64 rfl rfl rfl) <| vs rfl <| dn <| VN.again [0] [] (ihl185 i23799 (wrap64 (i23800 + 1)) h)
        cases lF c23868 hb23867
        refine un rfl <| un rfl <| un rfl <| un rfl <| va (op_pick rfl rfl) <| dt <| cf <| VC.skip <| VN.block <| tr <| vm rfl <| va (op_ari64 rfl rfl rfl) <| vs rfl <| dn <| VN.again [0] [] (ihl185 i23799 (wrap64 (i23800 + 1)) h)
      cases lF c23850 hb23849
      refine cf <| VC.exit <| VX.then <| VX.then <| VX.hit <| VN.meet1 i23799 [0] [] h
    cases lF c23848 hb23847
    refine un rfl <| un rfl <| va (op_pick rfl rfl) <| dt <| cf <| VC.exit <| VX.then <| VX.then <| VX.hit <| VN.meet1 i23799 [0] [] h
  clear h
  intro i23873 h
  unfold tarryref01_ReadNumber.j184 at h
  refine VC.join0 (⟨79, [(0, .string a0), (2, pt g9969 0), (3, iv i23873)], [], [(g9969, 113, [iv 0, .string (⟨#[]⟩ : ByteArray), iv 0])], []⟩) (tarryref01_ReadNumber.j208 k a0 i23873 = some (r1, r2, r3)) ?_ ?_
  · refine sr <| vm rfl <| VL.letter (decide (i23873 < 0)) fun b25571 hb25571 => va (op_cmp rfl rfl (congrArg some hb25571)) <| vm rfl <| ?_
    replace h := iC h
    rcases h with ⟨c25572, h⟩ | ⟨c25572, h⟩
    · cases lT c25572 hb25571
      refine vm rfl <| va (op_lens Tryz.underlying9 rfl) <| VL.letter (decide ((a0.size : Int) ≥ 9)) fun b25573 hb25573 => va (op_cmp rfl rfl (congrArg some hb25573)) <| va (op_pick rfl rfl) <| dt <| ?_
      replace h := iC h
      rcases h with ⟨c25574, h⟩ | ⟨c25574, h⟩
      · cases lT c25574 hb25573
        refine ct <| sr <| va (op_build (vals := [(2, iv 3)]) (vcs := [(2, [iv 3])]) (cells := [iv 0, .string (⟨#[]⟩ : ByteArray), iv 3]) SI113 rfl (.cons ⟨rfl, (.c rfl)⟩ .nil) (by kernel_rfl)) <| s1 (o_store 0 3 rfl rfl rfl TI113 (.agg (.of rfl)) rfl (len rfl)) <| dt <|
         VC.ret <| VR.then <| ?_
        simp only [Option.some.injEq, Prod.mk.injEq] at h
        obtain ⟨rfl, rfl, rfl⟩ := h
        exact rf [.cell 2 113] [] (.cell 0 rfl rfl TI113 (fun h => absurd h (by decide)) .nil) ⟨rfl, rfl, rfl⟩
      cases lF c25574 hb25573
      refine cf <| VC.skip <| VN.meet0 [0] [] h
    cases lF c25572 hb25571
    refine un rfl <| un rfl <| un rfl <| va (op_pick rfl rfl) <| dt <| cf <| VC.skip <| VN.meet0 [0] [] h
  clear h
  intro  h
  unfold tarryref01_ReadNumber.j208 at h
  refine sq <| sr <| vm rfl <| VL.letter (decide (i23873 < 0)) fun b25577 hb25577 => va (op_cmp rfl rfl (congrArg some hb25577)) <| dt <| ?_
  replace h := iC h
  rcases h with ⟨c25578, h⟩ | ⟨c25578, h⟩
  · cases lT c25578 hb25577
    refine ct <| sr <| va (op_build (vals := [(2, iv 4)]) (vcs := [(2, [iv 4])]) (cells := [iv 0, .string (⟨#[]⟩ : ByteArray), iv 4]) SI113 rfl (.cons ⟨rfl, (.c rfl)⟩ .nil) (by kernel_rfl)) <| s1 (o_store 0 3 rfl rfl rfl TI113 (.agg (.of rfl)) rfl (len rfl)) <| dt <|
     VC.ret <| VR.then <| ?_
    simp only [Option.some.injEq, Prod.mk.injEq] at h
    obtain ⟨rfl, rfl, rfl⟩ := h
    exact rf [.cell 2 113] [] (.cell 0 rfl rfl TI113 (fun h => absurd h (by decide)) .nil) ⟨rfl, rfl, rfl⟩
  cases lF c25578 hb25577
  refine cf <| sk <| sr <| vs rfl <| dt <| VC.join1 (fun (i25968 : Int) => ⟨79, [(0, .string a0), (2, pt g9969 0), (3, iv i23873), (5, iv i25968)], [], [(g9969, 113, [iv 0, .string (⟨#[]⟩ : ByteArray), iv 0])], []⟩) (fun (i25968 : Int) => tarryref01_ReadNumber.j213 k a0 i23873 i25968 = some (r1, r2, r3)) ?_ ?_
  · refine sr <| vm rfl <| vs rfl <| dt <| VC.block <|
     VC.loop2 (fun (i25954 : Int) (i25955 : Int) => ⟨79, [(0, .string a0), (2, pt g9969 0), (3, iv i23873), (5, iv i25954), (6, iv i25955)], [], [(g9969, 113, [iv 0, .string (⟨#[]⟩ : ByteArray), iv 0])], []⟩) (fun (ml214 : Nat) (i25954 : Int) (i25955 : Int) => tarryref01_ReadNumber.l214 k a0 i23873 ml214 i25954 i25955 = some (r1, r2, r3)) k 0 i23873 [0] [] h ⟨rfl, ⟨rfl, rfl, rfl, rfl, rfl, trivial⟩, trivial, rfl, by decide, rfl, by decide⟩ (by intros; simp [tarryref01_ReadNumber.l214]) <|
     ?_
    clear h
    intro ml214 ihl214 i25954 i25955 h
    simp only [tarryref01_ReadNumber.l214] at h
    refine sq <| sr <| vm rfl <| VL.letter (decide (i25955 ≥ 0)) fun b25964 hb25964 => va (op_cmp rfl rfl (congrArg some hb25964)) <| dt <| ?_
    replace h := iC h
    rcases h with ⟨c25965, h⟩ | ⟨c25965, h⟩
    · cases lT c25965 hb25964
      refine ct <| sk <| sq <| VC.block <| rg <| vm rfl <| va (op_ari64 rfl rfl rfl) <| vm rfl <| vm rfl <| ?_
      replace h := iN h
      obtain ⟨c25966, h⟩ := h
      replace h := iN h
      obtain ⟨c25967, h⟩ := h
      refine va (op_indexS Tryz.underlying9 rfl rfl c25966 c25967 rfl) <| va (op_rem rfl rfl (by decide) rfl) <| va (op_conv Tryz.underlying5 Tryz.underlying3 rfl (i64w _)) <| va (op_ari64 rfl rfl rfl) <| vs rfl <| dn <| VN.block <| tr <| vm rfl <| va (op_ari64 rfl rfl rfl) <| vs rfl <| dn <|
       VN.again [0] [] (ihl214 (wrap64 ((wrap64 (128 * i25954)) + (wrap64 ((bt a0 i25955).tmod 128)))) (wrap64 (i25955 - 1)) h)
    cases lF c25965 hb25964
    refine cf <| VC.exit <| VX.then <| VX.then <| VX.hit <| VN.meet1 i25954 [0] [] h
  clear h
  intro i25968 h
  unfold tarryref01_ReadNumber.j213 at h
  refine sr <| vm rfl <| va (op_quo rfl rfl (by decide) rfl) <| vs rfl <| dt <|
   VC.join1 (fun (i26080 : Int) => ⟨79, [(0, .string a0), (2, pt g9969 0), (3, iv i23873), (7, iv i26080)], [], [(g9969, 113, [iv 0, .string (⟨#[]⟩ : ByteArray), iv 0])], []⟩) (fun (i26080 : Int) => tarryref01_ReadNumber.j215 k a0 i23873 i26080 = some (r1, r2, r3)) ?_ ?_
  · refine sr <| vm rfl <| va (op_rem rfl rfl (by decide) rfl) <| VL.letter (((i25968.tmod 2) == 1)) fun b26078 hb26078 => va (op_cmp rfl rfl (congrArg some hb26078)) <| dt <| ?_
    replace h := iC h
    rcases h with ⟨c26079, h⟩ | ⟨c26079, h⟩
    · obtain rfl : b26078 = true := hb26078.symm.trans (beq_iff_eq.2 c26079)
      refine ct <| rg <| vm rfl <| va (op_ari64 rfl rfl rfl) <| va (op_ari64 rfl rfl rfl) <| vs rfl <| dn <| VN.meet1 (wrap64 ((wrap64 (0 - (IntKind.i64.wrap (i25968.tdiv 2)))) - 1)) [0] [] h
    obtain rfl : b26078 = false := hb26078.symm.trans (beq_eq_false_iff_ne.2 c26079)
    refine cf <| VC.skip <| VN.meet1 (IntKind.i64.wrap (i25968.tdiv 2)) [0] [] h
  clear h
  intro i26080 h
  unfold tarryref01_ReadNumber.j215 at h
  refine sq <| sr <| vm rfl <| vm rfl <| ?_
  replace h := iN h
  obtain ⟨c26117, h⟩ := h
  replace h := iN h
  obtain ⟨c26118, h⟩ := h
  refine va (op_indexS Tryz.underlying9 rfl rfl c26117 c26118 rfl) <| VL.letter (((bt a0 i23873) == 0)) fun b26119 hb26119 => va (op_cmp rfl rfl (congrArg some hb26119)) <| vm rfl <| ?_
  replace h := iC h
  rcases h with ⟨c26120, h⟩ | ⟨c26120, h⟩
  · obtain rfl : b26119 = true := hb26119.symm.trans (beq_iff_eq.2 c26120)
    refine vm rfl <| VL.letter (decide (i23873 > 0)) fun b26121 hb26121 => va (op_cmp rfl rfl (congrArg some hb26121)) <| va (op_pick rfl rfl) <| vm rfl <| ?_
    replace h := iC h
    rcases h with ⟨c26122, h⟩ | ⟨c26122, h⟩
    · cases lT c26122 hb26121
      refine un rfl <| un rfl <| un rfl <| va (op_pick rfl rfl) <| dt <| ct <| sr <| va (op_build (vals := [(2, iv 5)]) (vcs := [(2, [iv 5])]) (cells := [iv 0, .string (⟨#[]⟩ : ByteArray), iv 5]) SI113 rfl (.cons ⟨rfl, (.c rfl)⟩ .nil) (by kernel_rfl)) <|
       s1 (o_store 0 3 rfl rfl rfl TI113 (.agg (.of rfl)) rfl (len rfl)) <| dt <| VC.ret <| VR.then <| ?_
      simp only [Option.some.injEq, Prod.mk.injEq] at h
      obtain ⟨rfl, rfl, rfl⟩ := h
      exact rf [.cell 2 113] [] (.cell 0 rfl rfl TI113 (fun h => absurd h (by decide)) .nil) ⟨rfl, rfl, rfl⟩
    cases lF c26122 hb26121
    refine vm rfl <| ?_
    replace h := bd h
    obtain ⟨t26123, hA26124, h⟩ := h
    refine sC (o_call0 FO94 (tarryref01_May.ok i26080 t26123 hA26124) rfl rfl (ltn rfl) (All_of .nil)) <| ?_
    rintro _ _ _ ⟨rfl, rfl, rfl⟩
    replace h := iC h
    rcases h with ⟨c26125, h⟩ | ⟨c26125, h⟩
    · obtain rfl := c26125
      refine va (op_not rfl rfl) <| va (op_pick rfl rfl) <| dt <| cf <| sk <| sr <| vm rfl <| vm rfl <| vm rfl <| va (op_ari64 rfl rfl rfl) <| ?_
      replace h := iN h
      obtain ⟨c26126, h⟩ := h
      replace h := iN h
      obtain ⟨c26127, h⟩ := h
      refine va (op_sliceS ((wrap64 (i23873 + 1)).toNat) a0.size Tryz.underlying9 rfl ⟨⟨_, _, rfl, c26126, rfl⟩, rfl, tN (a := (wrap64 (i23873 + 1))) (b := (a0.size : Int)) rfl rfl c26127, Nat.le_refl _⟩ rfl) <|
       va (op_build (vals := [(0, iv i26080), (1, .string (a0.extract ((wrap64 (i23873 + 1)).toNat) a0.size))]) (vcs := [(0, [iv i26080]), (1, [.string (a0.extract ((wrap64 (i23873 + 1)).toNat) a0.size)])]) (cells := [iv i26080, .string (a0.extract ((wrap64 (i23873 + 1)).toNat) a0.size), iv 0]) SI113 rfl (.cons ⟨rfl, (.c rfl)⟩ (.cons ⟨rfl, (.c rfl)⟩ .nil)) (by kernel_rfl)) <|
       s1 (o_store 0 3 rfl rfl rfl TI113 (.agg (.of rfl)) rfl (len rfl)) <| dt <| VC.ret <| ?_
      simp only [Option.some.injEq, Prod.mk.injEq] at h
      obtain ⟨rfl, rfl, rfl⟩ := h
      exact rf [.cell 2 113] [] (.cell 0 rfl rfl TI113 (fun h => absurd h (by decide)) .nil) ⟨rfl, rfl, rfl⟩
    obtain rfl := Bool.eq_false_iff.2 c26125
    refine va (op_not rfl rfl) <| va (op_pick rfl rfl) <| dt <| ct <| sr <| va (op_build (vals := [(2, iv 5)]) (vcs := [(2, [iv 5])]) (cells := [iv 0, .string (⟨#[]⟩ : ByteArray), iv 5]) SI113 rfl (.cons ⟨rfl, (.c rfl)⟩ .nil) (by kernel_rfl)) <|
     s1 (o_store 0 3 rfl rfl rfl TI113 (.agg (.of rfl)) rfl (len rfl)) <| dt <| VC.ret <| VR.then <| ?_
    simp only [Option.some.injEq, Prod.mk.injEq] at h
    obtain ⟨rfl, rfl, rfl⟩ := h
    exact rf [.cell 2 113] [] (.cell 0 rfl rfl TI113 (fun h => absurd h (by decide)) .nil) ⟨rfl, rfl, rfl⟩
  obtain rfl : b26119 = false := hb26119.symm.trans (beq_eq_false_iff_ne.2 c26120)
  refine un rfl <| un rfl <| va (op_pick rfl rfl) <| vm rfl <| vm rfl <| ?_
  replace h := bd h
  obtain ⟨t26128, hA26129, h⟩ := h
  refine sC (o_call0 FO94 (tarryref01_May.ok i26080 t26128 hA26129) rfl rfl (ltn rfl) (All_of .nil)) <| ?_
  rintro _ _ _ ⟨rfl, rfl, rfl⟩
  replace h := iC h
  rcases h with ⟨c26130, h⟩ | ⟨c26130, h⟩
  · obtain rfl := c26130
    refine va (op_not rfl rfl) <| va (op_pick rfl rfl) <| dt <| cf <| sk <| sr <| vm rfl <| vm rfl <| vm rfl <| va (op_ari64 rfl rfl rfl) <| ?_
    replace h := iN h
    obtain ⟨c26131, h⟩ := h
    replace h := iN h
    obtain ⟨c26132, h⟩ := h
    refine va (op_sliceS ((wrap64 (i23873 + 1)).toNat) a0.size Tryz.underlying9 rfl ⟨⟨_, _, rfl, c26131, rfl⟩, rfl, tN (a := (wrap64 (i23873 + 1))) (b := (a0.size : Int)) rfl rfl c26132, Nat.le_refl _⟩ rfl) <|
     va (op_build (vals := [(0, iv i26080), (1, .string (a0.extract ((wrap64 (i23873 + 1)).toNat) a0.size))]) (vcs := [(0, [iv i26080]), (1, [.string (a0.extract ((wrap64 (i23873 + 1)).toNat) a0.size)])]) (cells := [iv i26080, .string (a0.extract ((wrap64 (i23873 + 1)).toNat) a0.size), iv 0]) SI113 rfl (.cons ⟨rfl, (.c rfl)⟩ (.cons ⟨rfl, (.c rfl)⟩ .nil)) (by kernel_rfl)) <|
     s1 (o_store 0 3 rfl rfl rfl TI113 (.agg (.of rfl)) rfl (len rfl)) <| dt <| VC.ret <| ?_
    simp only [Option.some.injEq, Prod.mk.injEq] at h
    obtain ⟨rfl, rfl, rfl⟩ := h
    exact rf [.cell 2 113] [] (.cell 0 rfl rfl TI113 (fun h => absurd h (by decide)) .nil) ⟨rfl, rfl, rfl⟩
  obtain rfl := Bool.eq_false_iff.2 c26130
  refine va (op_not rfl rfl) <| va (op_pick rfl rfl) <| dt <| ct <| sr <| va (op_build (vals := [(2, iv 5)]) (vcs := [(2, [iv 5])]) (cells := [iv 0, .string (⟨#[]⟩ : ByteArray), iv 5]) SI113 rfl (.cons ⟨rfl, (.c rfl)⟩ .nil) (by kernel_rfl)) <|
   s1 (o_store 0 3 rfl rfl rfl TI113 (.agg (.of rfl)) rfl (len rfl)) <| dt <| VC.ret <| VR.then <| ?_
  simp only [Option.some.injEq, Prod.mk.injEq] at h
  obtain ⟨rfl, rfl, rfl⟩ := h
  exact rf [.cell 2 113] [] (.cell 0 rfl rfl TI113 (fun h => absurd h (by decide)) .nil) ⟨rfl, rfl, rfl⟩

theorem tarryref02_Off.ok (k : Nat) (a0 : Int)  (r1 : Int) (h : tarryref02_Off.f k a0 = some r1) :
    VCalls Tryz.prog 80 [.int .u32 a0] [] (fun v G own => v = .int .u32 r1 ∧ G = [] ∧ own = []) := by
  refine VCalls.intro Tryz.func80 rfl (len rfl) fun E hC hW hD hU => ?_
  unfold tarryref02_Off.f at h
  refine sr <| vs rfl <| ds <| sr <| vs rfl <| dt <| VC.block <|
   VC.loop2 (fun (i26204 : Int) (i26205 : Int) => ⟨17, [(0, .int .u32 i26204), (2, .int .u32 0), (3, iv i26205)], [], [], []⟩) (fun (ml1 : Nat) (i26204 : Int) (i26205 : Int) => tarryref02_Off.l1 k ml1 i26204 i26205 = some r1) k a0 0 [] [] h ⟨rfl, ⟨rfl, rfl, rfl, trivial⟩, trivial, rfl, by decide, rfl, by decide⟩ (by intros; simp [tarryref02_Off.l1]) <|
   ?_
  clear h
  intro ml1 ihl1 i26204 i26205 h
  simp only [tarryref02_Off.l1] at h
  refine sq <| sr <| vm rfl <| VL.letter (decide (i26205 < 8)) fun b26216 hb26216 => va (op_cmp rfl rfl (congrArg some hb26216)) <| dt <| ?_
  replace h := iC h
  rcases h with ⟨c26217, h⟩ | ⟨c26217, h⟩
  · cases lT c26217 hb26216
    refine ct <| sk <| sq <| VC.block <| sr <| vm rfl <| va (op_rem rfl rfl (by decide) rfl) <| VL.letter (((i26204.tmod 2) == 1)) fun b26220 hb26220 => va (op_cmp rfl rfl (congrArg some hb26220)) <| dt <| ?_
    replace h := iC h
    rcases h with ⟨c26221, h⟩ | ⟨c26221, h⟩
    · obtain rfl : b26220 = true := hb26220.symm.trans (beq_iff_eq.2 c26221)
      refine ct <| rg <| vm rfl <| va (op_quo rfl rfl (by decide) rfl) <| va (op_bits rfl rfl rfl) <| vs rfl <| dn <| VN.block <| tr <| vm rfl <| va (op_ari64 rfl rfl rfl) <| vs rfl <| dn <| VN.again [] [] (ihl1 (Go.bits .xor .u32 (IntKind.u32.wrap (i26204.tdiv 2)) 2197175160) (wrap64 (i26205 + 1)) h)
    obtain rfl : b26220 = false := hb26220.symm.trans (beq_eq_false_iff_ne.2 c26221)
    refine cf <| rg <| vm rfl <| va (op_quo rfl rfl (by decide) rfl) <| vs rfl <| dn <| VN.block <| tr <| vm rfl <| va (op_ari64 rfl rfl rfl) <| vs rfl <| dn <| VN.again [] [] (ihl1 (IntKind.u32.wrap (i26204.tdiv 2)) (wrap64 (i26205 + 1)) h)
  cases lF c26217 hb26216
  refine cf <| VC.exit <| VX.then <| VX.then <| VX.hit <| tx <| vm rfl <| vs rfl <| dt <| VC.ret <| ?_
  obtain rfl := Option.some.inj h
  exact rq 2 rfl ⟨rfl, rfl, rfl⟩

theorem tarryref02_On.ok (k : Nat) (a0 : Int) (a1 : ByteArray)  (r1 : Int) (h : tarryref02_On.f k a0 a1 = some r1) :
    VCalls Tryz.prog 61 [.int .u32 a0, .string a1] [] (fun v G own => v = .int .u32 r1 ∧ G = [] ∧ own = []) := by
  refine VCalls.intro Tryz.func61 rfl (len rfl) fun E hC hW hD hU => ?_
  unfold tarryref02_On.f at h
  refine sr <| vs rfl <| nx <| vm rfl <| va (op_ari rfl rfl rfl) <| vs rfl <| ds <| sr <| vs rfl <| dt <| VC.block <|
   VC.loop2 (fun (i26249 : Int) (i26250 : Int) => ⟨23, [(0, .int .u32 i26249), (1, .string a1), (4, .int .u32 0), (5, iv i26250)], [], [], []⟩) (fun (ml1 : Nat) (i26249 : Int) (i26250 : Int) => tarryref02_On.l1 k a1 ml1 i26249 i26250 = some r1) k (IntKind.u32.wrap (4294967295 - a0)) 0 [] [] h ⟨rfl, ⟨rfl, rfl, rfl, rfl, trivial⟩, trivial, rfl, by decide, rfl, by decide⟩ (by intros; simp [tarryref02_On.l1]) <|
   ?_
  clear h
  intro ml1 ihl1 i26249 i26250 h
  simp only [tarryref02_On.l1] at h
  refine sq <| sr <| vm rfl <| vm rfl <| va (op_lens Tryz.underlying9 rfl) <| VL.letter (decide (i26250 < (a1.size : Int))) fun b26261 hb26261 => va (op_cmp rfl rfl (congrArg some hb26261)) <| dt <| ?_
  replace h := iC h
  rcases h with ⟨c26262, h⟩ | ⟨c26262, h⟩
  · cases lT c26262 hb26261
    refine ct <| sk <| sq <| VC.block <| rg <| vm rfl <| vm rfl <| vm rfl <| ?_
    replace h := iN h
    obtain ⟨c26263, h⟩ := h
    replace h := iN h
    obtain ⟨c26264, h⟩ := h
    refine va (op_indexS Tryz.underlying9 rfl rfl c26263 c26264 rfl) <| va (op_conv Tryz.underlying5 Tryz.underlying64 rfl rfl) <| va (op_bits rfl rfl rfl) <| ?_
    replace h := bd h
    obtain ⟨t26265, hA26266, h⟩ := h
    refine sC (o_call0 FO80 (tarryref02_Off.ok k (Go.bits .xor .u32 i26249 (IntKind.u32.wrap (bt a1 i26250))) t26265 hA26266) rfl rfl (ltn rfl) (All_of .nil)) <| ?_
    rintro _ _ _ ⟨rfl, rfl, rfl⟩
    refine vs rfl <| dn <| VN.block <| tr <| vm rfl <| va (op_ari64 rfl rfl rfl) <| vs rfl <| dn <| VN.again [] [] (ihl1 t26265 (wrap64 (i26250 + 1)) h)
  cases lF c26262 hb26261
  refine cf <| VC.exit <| VX.then <| VX.then <| VX.hit <| tx <| vm rfl <| va (op_ari rfl rfl rfl) <| vs rfl <| dt <| VC.ret <| ?_
  obtain rfl := Option.some.inj h
  exact rq 4 rfl ⟨rfl, rfl, rfl⟩

theorem tarryref02_Of.ok (k : Nat) (a0 : ByteArray)  (r1 : Int) (h : tarryref02_Of.f k a0 = some r1) :
    VCalls Tryz.prog 37 [.string a0] [] (fun v G own => v = .int .u32 r1 ∧ G = [] ∧ own = []) := by
  refine VCalls.intro Tryz.func37 rfl (len rfl) fun E hC hW hD hU => ?_
  unfold tarryref02_Of.f at h
  refine sr <| vs rfl <| nx <| vm rfl <| ?_
  replace h := bd h
  obtain ⟨t26267, hA26268, h⟩ := h
  refine sC (o_call0 FO61 (tarryref02_On.ok k 0 a0 t26267 hA26268) rfl rfl (ltn rfl) (All_of .nil)) <| ?_
  rintro _ _ _ ⟨rfl, rfl, rfl⟩
  refine vs rfl <| dt <| VC.ret <| ?_
  obtain rfl := Option.some.inj h
  exact rq 2 rfl ⟨rfl, rfl, rfl⟩

theorem tarryref02_Bytes.ok (k : Nat) (a0 : Int)  (r1 : ByteArray) (h : tarryref02_Bytes.f k a0 = some r1) :
    VCalls Tryz.prog 36 [.int .u32 a0] [] (fun v G own => v = .string r1 ∧ G = [] ∧ own = []) := by
  refine VCalls.intro Tryz.func36 rfl (len rfl) fun E hC hW hD hU => ?_
  unfold tarryref02_Bytes.f at h
  refine sr <| vs rfl <| nx <| sG (o_buildSlice (vals := []) (cells := #[]) (es := List.map enc_intu8 ([] : List Int)) Tryz.underlying68 TI5 Z5 rfl (by decide) (by decide) (by kernel_rfl) (by kernel_rfl) rfl (flat_map enc_intu8_ok _)) fun v26272 => vs rfl <| ds <| sr <| vs rfl <| dt <| VC.block <|
   VC.loop4 (fun (i26306 : Int) (v26308 : Value) (l26309 : List Int) (i26310 : Int) => ⟨20, [(0, .int .u32 i26306), (2, .string (⟨#[]⟩ : ByteArray)), (3, v26308), (4, iv i26310)], [], [], [(v26308, 5, 1, l26309.map enc_intu8)]⟩) (fun (ml1 : Nat) (i26306 : Int) (v26308 : Value) (l26309 : List Int) (i26310 : Int) => tarryref02_Bytes.l1 k ml1 i26306 l26309 i26310 = some r1) k a0 v26272 ([] : List Int) 0 [] [0] h ⟨rfl, ⟨rfl, rfl, rfl, rfl, trivial⟩, trivial, rfl, by decide, rfl, by decide⟩ (by intros; simp [tarryref02_Bytes.l1]) <|
   ?_
  clear h
  intro ml1 ihl1 i26306 v26308 l26309 i26310 h
  simp only [tarryref02_Bytes.l1] at h
  refine sq <| sr <| vm rfl <| VL.letter (decide (i26310 < 4)) fun b26322 hb26322 => va (op_cmp rfl rfl (congrArg some hb26322)) <| dt <| ?_
  replace h := iC h
  rcases h with ⟨c26323, h⟩ | ⟨c26323, h⟩
  · cases lT c26323 hb26322
    refine ct <| sk <| sq <| VC.block <| sr <| vm rfl <| vm rfl <| va (op_rem rfl rfl (by decide) rfl) <| va (op_conv Tryz.underlying64 Tryz.underlying5 rfl rfl) <|
     sG (o_buildSlice (vals := [(0, .int .u8 (IntKind.u8.wrap (i26306.tmod 256)))]) (cells := #[.int .u8 (IntKind.u8.wrap (i26306.tmod 256))]) (es := List.map enc_intu8 ([IntKind.u8.wrap (i26306.tmod 256)] : List Int)) Tryz.underlying68 TI5 Z5 rfl (by decide) (by decide) (by kernel_rfl) (by kernel_rfl) rfl (flat_map enc_intu8_ok _)) fun v26325 => ?_
    replace h := iN h
    obtain ⟨c26326, h⟩ := h
    refine sG (o_append 1 appm Tryz.underlying68 EI5 rfl rfl rfl (.inr ⟨0, _, rfl⟩) (bndm c26326)) fun v26327 => vs rfl <| dr <| vm rfl <| va (op_quo rfl rfl (by decide) rfl) <| vs rfl <| dn <| VN.block <| tr <| vm rfl <| va (op_ari64 rfl rfl rfl) <| vs rfl <| dn <|
     VN.again [] [1] (ihl1 (IntKind.u32.wrap (i26306.tdiv 256)) v26327 (l26309 ++ ([IntKind.u8.wrap (i26306.tmod 256)] : List Int)) (wrap64 (i26310 + 1)) h)
  cases lF c26323 hb26322
  refine cf <| VC.exit <| VX.then <| VX.then <| VX.hit <| tx <| vm rfl <| va (op_bytesStr_own (xs := l26309) 0 rfl rfl Tryz.underlying68 Tryz.underlying9 Tryz.underlying5 rfl rfl) <| vs rfl <| dt <| VC.ret <| ?_
  obtain rfl := Option.some.inj h
  exact rq 2 rfl ⟨rfl, rfl, rfl⟩

end Go.Proofs.YtipeglbeongfmaaGreat.PJournalCrashes
