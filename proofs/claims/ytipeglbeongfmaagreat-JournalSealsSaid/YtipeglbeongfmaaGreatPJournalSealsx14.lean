/- Written by a program of this repo: what the program's functions do, each as a Lean function, shown of the loaded code; or a statement's row over that; no condition of its own. -/
import Derived.Test.YtipeglbeongfmaaGreatPJournalSealsx13
namespace Go.Proofs.YtipeglbeongfmaaGreat.PJournalSeals
open Go Go.RowKit Go.Proofs.YtipeglbeongfmaaGreatV
set_option linter.unusedVariables false
set_option linter.unusedSimpArgs false
set_option maxHeartbeats 4000000
set_option maxRecDepth 100000

theorem tarryref03_Get.ok (k : Nat) (l0_0 : List ByteArray) (l0_1 : List S71) (a1 : Int) (v0_0 : Value) (v0_1 : Value) (r1 : ByteArray) (h : tarryref03_Get.f k l0_0 l0_1 a1 = some r1) :
    VCalls Tryz.prog 78 [.agg #[v0_0, v0_1], iv a1] [.row v0_0 1 (l0_0.map enc_str), .row v0_1 2 (l0_1.map enc71)] (fun v G own => v = .string r1 ∧ G = [] ∧ own = []) := by
  refine VCalls.intro Tryz.func78 rfl (len rfl) fun E hC hW hD hU => ?_
  unfold tarryref03_Get.f at h
  refine sr <| sG (o_box rfl (.agg (.f 0 rfl (.f 1 rfl .nil)))) fun g9937 => vs rfl <| nx <| va (op_fieldAddr FI25_0 rfl (add_at _ _ _)) <| va (op_load 0 1 rfl rfl TI22 rfl (by decide)) <| vm rfl <| ?_
  replace h := iN h
  obtain ⟨c9938, h⟩ := h
  replace h := bd h
  obtain ⟨x9939, hx9939, h⟩ := h
  refine VL.open (m := l0_0.length) 0 lenm rfl (pos_get hx9939) <| ?_
  rintro ad9940 n9941 rfl
  refine va (op_indexAddr Tryz.underlying22 TI9 rfl rfl c9938 (lt_get c9938 hx9939) rfl) <| va (op_load_row (sz := 1) (o := 0) 0 a1.toNat 1 rfl rfl (get_map hx9939) TI9 rfl (by decide)) <| vs rfl <| ds <| sr <| va (op_fieldAddr FI25_1 rfl (add_at _ _ _)) <|
   va (op_load 0 1 rfl rfl TI23 rfl (by decide)) <| va (op_len (m := l0_1.length) 1 lenm Tryz.underlying23 rfl rfl) <| vm rfl <| dt <| VC.block <|
   VC.loop2 (fun (s10008 : ByteArray) (i10009 : Int) => ⟨28, [(1, iv a1), (4, .string (⟨#[]⟩ : ByteArray)), (5, .string s10008), (14, v0_1), (15, iv (l0_1.length : Int)), (16, iv i10009)], [.row v0_1 2 (l0_1.map enc71)], [], []⟩) (fun (ml1 : Nat) (s10008 : ByteArray) (i10009 : Int) => tarryref03_Get.l1 k a1 l0_1 ml1 s10008 i10009 = some r1) k x9939 0 [] [] h ⟨rfl, ⟨rfl, rfl, rfl, rfl, rfl, rfl, trivial⟩, ⟨⟨1, rfl⟩, trivial⟩, rfl, by decide, rfl, by decide⟩ (by intros; simp [tarryref03_Get.l1]) <|
   ?_
  clear h
  intro ml1 ihl1 s10008 i10009 h
  simp only [tarryref03_Get.l1] at h
  refine sr <| VL.letter (decide (i10009 < (l0_1.length : Int))) fun b10027 hb10027 => va (op_cmp rfl rfl (congrArg some hb10027)) <| ds <| ?_
  replace h := iC h
  rcases h with ⟨c10029, h⟩ | ⟨c10029, h⟩
  · cases lT c10029 hb10027
    refine ct <| sk <| sq <| VC.block <| sr <| ?_
    replace h := iN h
    obtain ⟨c10037, h⟩ := h
    replace h := bd h
    obtain ⟨x10038, hx10038, h⟩ := h
    refine VL.open (m := l0_1.length) 0 lenm rfl (pos_get hx10038) <| ?_
    rintro ad10039 n10040 rfl
    refine va (op_indexAddr Tryz.underlying23 TI72 rfl rfl c10037 (lt_get c10037 hx10038) rfl) <| va (op_load_row (sz := 2) (o := 0) 0 i10009.toNat 2 rfl rfl (get_map hx10038) TI72 rfl (fun h => absurd h (by decide))) <|
     sG (o_alloc Z72 ZL72) fun g10041 => s1 (o_store 0 2 rfl rfl rfl TI72 (.agg (.of rfl)) rfl (len rfl)) <| nx <| va (op_fieldAddr FI72_0 rfl (add_at _ _ _)) <| va (op_load 0 1 rfl rfl TI3 rfl (by decide)) <| vm rfl <|
     VL.letter ((x10038.f0 == a1)) fun b10042 hb10042 => va (op_cmp rfl rfl (congrArg some hb10042)) <| dt <| ?_
    replace h := iC h
    rcases h with ⟨c10043, h⟩ | ⟨c10043, h⟩
    · obtain rfl : b10042 = true := hb10042.symm.trans (beq_iff_eq.2 c10043)
      refine ct <| rg <| va (op_fieldAddr FI72_1 rfl (add_at _ _ _)) <| va (op_load 0 1 rfl rfl TI9 rfl (by decide)) <| vs rfl <| dn <| VN.block <| tr <| va (op_ari64 rfl rfl rfl) <| vm rfl <| dn <| VN.again [] [] (ihl1 x10038.f1 (wrap64 (i10009 + 1)) h)
    obtain rfl : b10042 = false := hb10042.symm.trans (beq_eq_false_iff_ne.2 c10043)
    refine cf <| VC.skip <| VN.block <| tr <| va (op_ari64 rfl rfl rfl) <| vm rfl <| dn <| VN.again [] [] (ihl1 s10008 (wrap64 (i10009 + 1)) h)
  cases lF c10029 hb10027
  refine cf <| VC.exit <| VX.then <| VX.then <| VX.hit <| tx <| vm rfl <| vs rfl <| dt <| VC.ret <| ?_
  obtain rfl := Option.some.inj h
  exact rq 4 rfl ⟨rfl, rfl, rfl⟩

theorem tarryref05_Bytes.ok (k : Nat) (l0_0 : List ByteArray) (l0_1 : List S71) (a1 : Int) (a2 : Int) (v0_0 : Value) (v0_1 : Value) (r1 : ByteArray) (h : tarryref05_Bytes.f k l0_0 l0_1 a1 a2 = some r1) :
    VCalls Tryz.prog 59 [.agg #[v0_0, v0_1], iv a1, iv a2] [.row v0_0 1 (l0_0.map enc_str), .row v0_1 2 (l0_1.map enc71)] (fun v G own => v = .string r1 ∧ G = [] ∧ own = []) := by
  refine VCalls.intro Tryz.func59 rfl (len rfl) fun E hC hW hD hU => ?_
  unfold tarryref05_Bytes.f at h
  refine sr <| sG (o_box rfl (.agg (.f 0 rfl (.f 1 rfl .nil)))) fun g9930 => vs rfl <| nx <| va (op_fieldAddr FI25_0 rfl (add_at _ _ _)) <| va (op_load 0 1 rfl rfl TI22 rfl (by decide)) <| va (op_len (m := l0_0.length) 0 lenm Tryz.underlying22 rfl rfl) <| va (op_ari64 rfl rfl rfl) <|
   va (op_quo rfl rfl (by decide) rfl) <| vs rfl <| nx <| vs rfl <| ds <| sr <| vs rfl <| dt <| VC.block <|
   VC.loop2 (fun (s10070 : ByteArray) (i10071 : Int) => ⟨33, [(1, iv a1), (2, iv a2), (3, pt g9930 0), (6, .string (⟨#[]⟩ : ByteArray)), (7, iv (IntKind.i64.wrap ((wrap64 ((l0_0.length : Int) - 2)).tdiv 2))), (8, .string s10070), (9, iv i10071)], [.row v0_0 1 (l0_0.map enc_str), .row v0_1 2 (l0_1.map enc71)], [(g9930, 25, [v0_0, v0_1])], []⟩) (fun (ml1 : Nat) (s10070 : ByteArray) (i10071 : Int) => tarryref05_Bytes.l1 k a1 a2 l0_0 l0_1 ml1 s10070 i10071 = some r1) k (⟨#[]⟩ : ByteArray) 0 [0] [] h ⟨rfl, ⟨rfl, rfl, rfl, rfl, rfl, rfl, rfl, trivial⟩, ⟨⟨0, rfl⟩, ⟨1, rfl⟩, trivial⟩, rfl, by decide, rfl, by decide⟩ (by intros; simp [tarryref05_Bytes.l1]) <|
   ?_
  clear h
  intro ml1 ihl1 s10070 i10071 h
  simp only [tarryref05_Bytes.l1] at h
  refine sq <| sr <| vm rfl <| vm rfl <| VL.letter (decide (i10071 < (IntKind.i64.wrap ((wrap64 ((l0_0.length : Int) - 2)).tdiv 2)))) fun b10083 hb10083 => va (op_cmp rfl rfl (congrArg some hb10083)) <| dt <| ?_
  replace h := iC h
  rcases h with ⟨c10084, h⟩ | ⟨c10084, h⟩
  · cases lT c10084 hb10083
    refine ct <| sk <| sq <| VC.block <| rg <| vm rfl <| va (op_load 0 2 rfl rfl TI25 rfl (fun h => absurd h (by decide))) <| vm rfl <| vm rfl <| va (op_ari64 rfl rfl rfl) <| va (op_ari64 rfl rfl rfl) <| vm rfl <| va (op_ari64 rfl rfl rfl) <| ?_
    replace h := bd h
    obtain ⟨t10085, hA10086, h⟩ := h
    refine sC (o_call0 FO78 (tarryref03_Get.ok k l0_0 l0_1 (wrap64 ((wrap64 (2 + (wrap64 (a1 * (IntKind.i64.wrap ((wrap64 ((l0_0.length : Int) - 2)).tdiv 2)))))) + i10071)) v0_0 v0_1 t10085 hA10086) rfl rfl (ltn rfl) (All_of (.cons (mG 0 rfl) (.cons (mG 1 rfl) .nil)))) <| ?_
    rintro _ _ _ ⟨rfl, rfl, rfl⟩
    replace h := iN h
    obtain ⟨c10087, h⟩ := h
    refine va (op_adds rfl rfl rfl c10087) <| vs rfl <| dn <| VN.block <| tr <| vm rfl <| va (op_ari64 rfl rfl rfl) <| vs rfl <| dn <| VN.again [0] [] (ihl1 (s10070 ++ t10085) (wrap64 (i10071 + 1)) h)
  cases lF c10084 hb10083
  refine cf <| VC.exit <| VX.then <| VX.then <| VX.hit <| tx <| vm rfl <| vm rfl <| ?_
  replace h := iN h
  obtain ⟨c10088, h⟩ := h
  replace h := iN h
  obtain ⟨c10089, h⟩ := h
  refine va (op_sliceS 0 a2.toNat Tryz.underlying9 rfl ⟨rfl, ⟨_, _, rfl, c10088, rfl⟩, Nat.zero_le _, tN (a := a2) (b := (s10070.size : Int)) rfl rfl c10089⟩ rfl) <| vs rfl <| dt <| VC.ret <| ?_
  obtain rfl := Option.some.inj h
  exact rq 6 rfl ⟨rfl, rfl, rfl⟩

theorem tarryref01_May.ok (a0 : Int)  (r1 : Bool) (h : tarryref01_May.f a0 = some r1) :
    VCalls Tryz.prog 94 [iv a0] [] (fun v G own => v = .bool r1 ∧ G = [] ∧ own = []) := by
  refine VCalls.intro Tryz.func94 rfl (len rfl) fun E hC hW hD hU => ?_
  unfold tarryref01_May.f at h
  refine sr <| vs rfl <| nx <| vm rfl <| VL.letter (decide (a0 ≥ (-1152921504606846976))) fun b10337 hb10337 => va (op_cmp rfl rfl (congrArg some hb10337)) <| vm rfl <| ?_
  replace h := iC h
  rcases h with ⟨c10338, h⟩ | ⟨c10338, h⟩
  · cases lT c10338 hb10337
    refine vm rfl <| VL.letter (decide (a0 ≤ 1152921504606846976)) fun b10339 hb10339 => va (op_cmp rfl rfl (congrArg some hb10339)) <| va (op_pick rfl rfl) <| vs rfl <| dt <| VC.ret <| ?_
    obtain rfl := Option.some.inj h
    subst hb10339
    exact rq 2 rfl ⟨rfl, rfl, rfl⟩
  cases lF c10338 hb10337
  refine un rfl <| un rfl <| va (op_pick rfl rfl) <| vs rfl <| dt <| VC.ret <| ?_
  obtain rfl := Option.some.inj h
  exact rq 2 rfl ⟨rfl, rfl, rfl⟩

theorem tarryref01_ReadNumber.ok (k : Nat) (a0 : ByteArray)  (r1 : Int) (r2 : ByteArray) (r3 : Int) (h : tarryref01_ReadNumber.f k a0 = some (r1, r2, r3)) :
    VCalls Tryz.prog 79 [.string a0] [] (fun v G own => v = .agg #[iv r1, .string r2, iv r3] ∧ G = [] ∧ own = []) := by
  refine VCalls.intro Tryz.func79 rfl (len rfl) fun E hC hW hD hU => ?_
  unfold tarryref01_ReadNumber.f at h
  refine sr <| sG (o_alloc Z113 ZL113) fun g10098 => nx <| vs rfl <| dt <|
   VC.join1 (fun (i24002 : Int) => ⟨79, [(0, .string a0), (2, pt g10098 0), (3, iv i24002)], [], [(g10098, 113, [iv 0, .string (⟨#[]⟩ : ByteArray), iv 0])], []⟩) (fun (i24002 : Int) => tarryref01_ReadNumber.j184 k a0 i24002 = some (r1, r2, r3)) ?_ ?_
  · refine sr <| vs rfl <| dt <| VC.block <| VC.loop2 (fun (i23928 : Int) (i23929 : Int) => ⟨79, [(0, .string a0), (2, pt g10098 0), (3, iv i23928), (4, iv i23929)], [], [(g10098, 113, [iv 0, .string (⟨#[]⟩ : ByteArray), iv 0])], []⟩) (fun (ml185 : Nat) (i23928 : Int) (i23929 : Int) => tarryref01_ReadNumber.l185 k a0 ml185 i23928 i23929 = some (r1, r2, r3)) k (-1) 0 [0] [] h ⟨rfl, ⟨rfl, rfl, rfl, rfl, trivial⟩, trivial, rfl, by decide, rfl, by decide⟩ (by intros; simp [tarryref01_ReadNumber.l185]) <|
     ?_
    clear h
    intro ml185 ihl185 i23928 i23929 h
    simp only [tarryref01_ReadNumber.l185] at h
    refine sq <| sr <| vm rfl <| vm rfl <| va (op_lens Tryz.underlying9 rfl) <| VL.letter (decide (i23929 < (a0.size : Int))) fun b23976 hb23976 => va (op_cmp rfl rfl (congrArg some hb23976)) <| vm rfl <| ?_
    replace h := iC h
    rcases h with ⟨c23977, h⟩ | ⟨c23977, h⟩
    · cases lT c23977 hb23976
      refine vm rfl <| VL.letter (decide (i23929 < 9)) fun b23978 hb23978 => va (op_cmp rfl rfl (congrArg some hb23978)) <| va (op_pick rfl rfl) <| dt <| ?_
      replace h := iC h
      rcases h with ⟨c23979, h⟩ | ⟨c23979, h⟩
      · cases lT c23979 hb23978
        refine ct <| sk <| sq <| VC.block <| sr <| vm rfl <| VL.letter (decide (i23928 < 0)) fun b23996 hb23996 => va (op_cmp rfl rfl (congrArg some hb23996)) <| vm rfl <| ?_
        replace h := iC h
        rcases h with ⟨c23997, h⟩ | ⟨c23997, h⟩
        · cases lT c23997 hb23996
          refine vm rfl <| vm rfl <| ?_
          replace h := iN h
          obtain ⟨c23998, h⟩ := h
          replace h := iN h
          obtain ⟨c23999, h⟩ := h
          refine va (op_indexS Tryz.underlying9 rfl rfl c23998 c23999 rfl) <| VL.letter (decide ((bt a0 i23929) < 128)) fun b24000 hb24000 => va (op_cmp rfl rfl (congrArg some hb24000)) <| va (op_pick rfl rfl) <| dt <| ?_
          replace h := iC h
          rcases h with ⟨c24001, h⟩ | ⟨c24001, h⟩
          · cases lT c24001 hb24000
            refine ct <| rg <| vm rfl <| vs rfl <| dn <| VN.block <| tr <| vm rfl <| va (op_ari64 rfl rfl rfl) <| vs rfl <| dn <| VN.again [0] [] (ihl185 i23929 (wrap64 (i23929 + 1)) h)
          cases lF c24001 hb24000
          refine cf <| VC.skip <| VN.block <| tr <| vm rfl <| va (op_ari64 rfl rfl rfl) <| vs rfl <| dn <| VN.again [0] [] (ihl185 i23928 (wrap64 (i23929 + 1)) h)
        cases lF c23997 hb23996
        refine un rfl <| un rfl <| un rfl <| un rfl <| va (op_pick rfl rfl) <| dt <| cf <| VC.skip <| VN.block <| tr <| vm rfl <| va (op_ari64 rfl rfl rfl) <| vs rfl <| dn <| VN.again [0] [] (ihl185 i23928 (wrap64 (i23929 + 1)) h)
      cases lF c23979 hb23978
      refine cf <| VC.exit <| VX.then <| VX.then <| VX.hit <| VN.meet1 i23928 [0] [] h
    cases lF c23977 hb23976
    refine un rfl <| un rfl <| va (op_pick rfl rfl) <| dt <| cf <| VC.exit <| VX.then <| VX.then <| VX.hit <| VN.meet1 i23928 [0] [] h
  clear h
  intro i24002 h
  unfold tarryref01_ReadNumber.j184 at h
  refine VC.join0 (⟨79, [(0, .string a0), (2, pt g10098 0), (3, iv i24002)], [], [(g10098, 113, [iv 0, .string (⟨#[]⟩ : ByteArray), iv 0])], []⟩) (tarryref01_ReadNumber.j208 k a0 i24002 = some (r1, r2, r3)) ?_ ?_
  · refine sr <| vm rfl <| VL.letter (decide (i24002 < 0)) fun b25700 hb25700 => va (op_cmp rfl rfl (congrArg some hb25700)) <| vm rfl <| ?_
    replace h := iC h
    rcases h with ⟨c25701, h⟩ | ⟨c25701, h⟩
    · cases lT c25701 hb25700
      refine vm rfl <| va (op_lens Tryz.underlying9 rfl) <| VL.letter (decide ((a0.size : Int) ≥ 9)) fun b25702 hb25702 => va (op_cmp rfl rfl (congrArg some hb25702)) <| va (op_pick rfl rfl) <| dt <| ?_
      replace h := iC h
      rcases h with ⟨c25703, h⟩ | ⟨c25703, h⟩
      · cases lT c25703 hb25702
        refine ct <| sr <| va (op_build (vals := [(2, iv 3)]) (vcs := [(2, [iv 3])]) (cells := [iv 0, .string (⟨#[]⟩ : ByteArray), iv 3]) SI113 rfl (.cons ⟨rfl, (.c rfl)⟩ .nil) (by kernel_rfl)) <| s1 (o_store 0 3 rfl rfl rfl TI113 (.agg (.of rfl)) rfl (len rfl)) <| dt <|
         VC.ret <| VR.then <| ?_
        simp only [Option.some.injEq, Prod.mk.injEq] at h
        obtain ⟨rfl, rfl, rfl⟩ := h
        exact rf [.cell 2 113] [] (.cell 0 rfl rfl TI113 (fun h => absurd h (by decide)) .nil) ⟨rfl, rfl, rfl⟩
      cases lF c25703 hb25702
      refine cf <| VC.skip <| VN.meet0 [0] [] h
    cases lF c25701 hb25700
    refine un rfl <| un rfl <| un rfl <| va (op_pick rfl rfl) <| dt <| cf <| VC.skip <| VN.meet0 [0] [] h
  clear h
  intro  h
  unfold tarryref01_ReadNumber.j208 at h
  refine sq <| sr <| vm rfl <| VL.letter (decide (i24002 < 0)) fun b25706 hb25706 => va (op_cmp rfl rfl (congrArg some hb25706)) <| dt <| ?_
  replace h := iC h
  rcases h with ⟨c25707, h⟩ | ⟨c25707, h⟩
  · cases lT c25707 hb25706
    refine ct <| sr <| va (op_build (vals := [(2, iv 4)]) (vcs := [(2, [iv 4])]) (cells := [iv 0, .string (⟨#[]⟩ : ByteArray), iv 4]) SI113 rfl (.cons ⟨rfl, (.c rfl)⟩ .nil) (by kernel_rfl)) <| s1 (o_store 0 3 rfl rfl rfl TI113 (.agg (.of rfl)) rfl (len rfl)) <| dt <|
     VC.ret <| VR.then <| ?_
    simp only [Option.some.injEq, Prod.mk.injEq] at h
    obtain ⟨rfl, rfl, rfl⟩ := h
    exact rf [.cell 2 113] [] (.cell 0 rfl rfl TI113 (fun h => absurd h (by decide)) .nil) ⟨rfl, rfl, rfl⟩
  cases lF c25707 hb25706
  refine cf <| sk <| sr <| vs rfl <| dt <| VC.join1 (fun (i26097 : Int) => ⟨79, [(0, .string a0), (2, pt g10098 0), (3, iv i24002), (5, iv i26097)], [], [(g10098, 113, [iv 0, .string (⟨#[]⟩ : ByteArray), iv 0])], []⟩) (fun (i26097 : Int) => tarryref01_ReadNumber.j213 k a0 i24002 i26097 = some (r1, r2, r3)) ?_ ?_
  · refine sr <| vm rfl <| vs rfl <| dt <| VC.block <|
     VC.loop2 (fun (i26083 : Int) (i26084 : Int) => ⟨79, [(0, .string a0), (2, pt g10098 0), (3, iv i24002), (5, iv i26083), (6, iv i26084)], [], [(g10098, 113, [iv 0, .string (⟨#[]⟩ : ByteArray), iv 0])], []⟩) (fun (ml214 : Nat) (i26083 : Int) (i26084 : Int) => tarryref01_ReadNumber.l214 k a0 i24002 ml214 i26083 i26084 = some (r1, r2, r3)) k 0 i24002 [0] [] h ⟨rfl, ⟨rfl, rfl, rfl, rfl, rfl, trivial⟩, trivial, rfl, by decide, rfl, by decide⟩ (by intros; simp [tarryref01_ReadNumber.l214]) <|
     ?_
    clear h
    intro ml214 ihl214 i26083 i26084 h
    simp only [tarryref01_ReadNumber.l214] at h
    refine sq <| sr <| vm rfl <| VL.letter (decide (i26084 ≥ 0)) fun b26093 hb26093 => va (op_cmp rfl rfl (congrArg some hb26093)) <| dt <| ?_
    replace h := iC h
    rcases h with ⟨c26094, h⟩ | ⟨c26094, h⟩
    · cases lT c26094 hb26093
      refine ct <| sk <| sq <| VC.block <| rg <| vm rfl <| va (op_ari64 rfl rfl rfl) <| vm rfl <| vm rfl <| ?_
      replace h := iN h
      obtain ⟨c26095, h⟩ := h
      replace h := iN h
      obtain ⟨c26096, h⟩ := h
      refine va (op_indexS Tryz.underlying9 rfl rfl c26095 c26096 rfl) <| va (op_rem rfl rfl (by decide) rfl) <| va (op_conv Tryz.underlying5 Tryz.underlying3 rfl (i64w _)) <| va (op_ari64 rfl rfl rfl) <| vs rfl <| dn <| VN.block <| tr <| vm rfl <| va (op_ari64 rfl rfl rfl) <| vs rfl <| dn <|
       VN.again [0] [] (ihl214 (wrap64 ((wrap64 (128 * i26083)) + (wrap64 ((bt a0 i26084).tmod 128)))) (wrap64 (i26084 - 1)) h)
    cases lF c26094 hb26093
    refine cf <| VC.exit <| VX.then <| VX.then <| VX.hit <| VN.meet1 i26083 [0] [] h
  clear h
  intro i26097 h
  unfold tarryref01_ReadNumber.j213 at h
  refine sr <| vm rfl <| va (op_quo rfl rfl (by decide) rfl) <| vs rfl <| dt <|
   VC.join1 (fun (i26209 : Int) => ⟨79, [(0, .string a0), (2, pt g10098 0), (3, iv i24002), (7, iv i26209)], [], [(g10098, 113, [iv 0, .string (⟨#[]⟩ : ByteArray), iv 0])], []⟩) (fun (i26209 : Int) => tarryref01_ReadNumber.j215 k a0 i24002 i26209 = some (r1, r2, r3)) ?_ ?_
  · refine sr <| vm rfl <| va (op_rem rfl rfl (by decide) rfl) <| VL.letter (((i26097.tmod 2) == 1)) fun b26207 hb26207 => va (op_cmp rfl rfl (congrArg some hb26207)) <| dt <| ?_
    replace h := iC h
    rcases h with ⟨c26208, h⟩ | ⟨c26208, h⟩
    · obtain rfl : b26207 = true := hb26207.symm.trans (beq_iff_eq.2 c26208)
      refine ct <| rg <| vm rfl <| va (op_ari64 rfl rfl rfl) <| va (op_ari64 rfl rfl rfl) <| vs rfl <| dn <| VN.meet1 (wrap64 ((wrap64 (0 - (IntKind.i64.wrap (i26097.tdiv 2)))) - 1)) [0] [] h
    obtain rfl : b26207 = false := hb26207.symm.trans (beq_eq_false_iff_ne.2 c26208)
    refine cf <| VC.skip <| VN.meet1 (IntKind.i64.wrap (i26097.tdiv 2)) [0] [] h
  clear h
  intro i26209 h
  unfold tarryref01_ReadNumber.j215 at h
  refine sq <| sr <| vm rfl <| vm rfl <| ?_
  replace h := iN h
  obtain ⟨c26246, h⟩ := h
  replace h := iN h
  obtain ⟨c26247, h⟩ := h
  refine va (op_indexS Tryz.underlying9 rfl rfl c26246 c26247 rfl) <| VL.letter (((bt a0 i24002) == 0)) fun b26248 hb26248 => va (op_cmp rfl rfl (congrArg some hb26248)) <| vm rfl <| ?_
  replace h := iC h
  rcases h with ⟨c26249, h⟩ | ⟨c26249, h⟩
  · obtain rfl : b26248 = true := hb26248.symm.trans (beq_iff_eq.2 c26249)
    refine vm rfl <| VL.letter (decide (i24002 > 0)) fun b26250 hb26250 => va (op_cmp rfl rfl (congrArg some hb26250)) <| va (op_pick rfl rfl) <| vm rfl <| ?_
    replace h := iC h
    rcases h with ⟨c26251, h⟩ | ⟨c26251, h⟩
    · cases lT c26251 hb26250
      refine un rfl <| un rfl <| un rfl <| va (op_pick rfl rfl) <| dt <| ct <| sr <| va (op_build (vals := [(2, iv 5)]) (vcs := [(2, [iv 5])]) (cells := [iv 0, .string (⟨#[]⟩ : ByteArray), iv 5]) SI113 rfl (.cons ⟨rfl, (.c rfl)⟩ .nil) (by kernel_rfl)) <|
       s1 (o_store 0 3 rfl rfl rfl TI113 (.agg (.of rfl)) rfl (len rfl)) <| dt <| VC.ret <| VR.then <| ?_
      simp only [Option.some.injEq, Prod.mk.injEq] at h
      obtain ⟨rfl, rfl, rfl⟩ := h
      exact rf [.cell 2 113] [] (.cell 0 rfl rfl TI113 (fun h => absurd h (by decide)) .nil) ⟨rfl, rfl, rfl⟩
    cases lF c26251 hb26250
    refine vm rfl <| ?_
    replace h := bd h
    obtain ⟨t26252, hA26253, h⟩ := h
    refine sC (o_call0 FO94 (tarryref01_May.ok i26209 t26252 hA26253) rfl rfl (ltn rfl) (All_of .nil)) <| ?_
    rintro _ _ _ ⟨rfl, rfl, rfl⟩
    replace h := iC h
    rcases h with ⟨c26254, h⟩ | ⟨c26254, h⟩
    · obtain rfl := c26254
      refine va (op_not rfl rfl) <| va (op_pick rfl rfl) <| dt <| cf <| sk <| sr <| vm rfl <| vm rfl <| vm rfl <| va (op_ari64 rfl rfl rfl) <| ?_
      replace h := iN h
      obtain ⟨c26255, h⟩ := h
      replace h := iN h
      obtain ⟨c26256, h⟩ := h
      refine va (op_sliceS ((wrap64 (i24002 + 1)).toNat) a0.size Tryz.underlying9 rfl ⟨⟨_, _, rfl, c26255, rfl⟩, rfl, tN (a := (wrap64 (i24002 + 1))) (b := (a0.size : Int)) rfl rfl c26256, Nat.le_refl _⟩ rfl) <|
       va (op_build (vals := [(0, iv i26209), (1, .string (a0.extract ((wrap64 (i24002 + 1)).toNat) a0.size))]) (vcs := [(0, [iv i26209]), (1, [.string (a0.extract ((wrap64 (i24002 + 1)).toNat) a0.size)])]) (cells := [iv i26209, .string (a0.extract ((wrap64 (i24002 + 1)).toNat) a0.size), iv 0]) SI113 rfl (.cons ⟨rfl, (.c rfl)⟩ (.cons ⟨rfl, (.c rfl)⟩ .nil)) (by kernel_rfl)) <|
       s1 (o_store 0 3 rfl rfl rfl TI113 (.agg (.of rfl)) rfl (len rfl)) <| dt <| VC.ret <| ?_
      simp only [Option.some.injEq, Prod.mk.injEq] at h
      obtain ⟨rfl, rfl, rfl⟩ := h
      exact rf [.cell 2 113] [] (.cell 0 rfl rfl TI113 (fun h => absurd h (by decide)) .nil) ⟨rfl, rfl, rfl⟩
    obtain rfl := Bool.eq_false_iff.2 c26254
    refine va (op_not rfl rfl) <| va (op_pick rfl rfl) <| dt <| ct <| sr <| va (op_build (vals := [(2, iv 5)]) (vcs := [(2, [iv 5])]) (cells := [iv 0, .string (⟨#[]⟩ : ByteArray), iv 5]) SI113 rfl (.cons ⟨rfl, (.c rfl)⟩ .nil) (by kernel_rfl)) <|
     s1 (o_store 0 3 rfl rfl rfl TI113 (.agg (.of rfl)) rfl (len rfl)) <| dt <| VC.ret <| VR.then <| ?_
    simp only [Option.some.injEq, Prod.mk.injEq] at h
    obtain ⟨rfl, rfl, rfl⟩ := h
    exact rf [.cell 2 113] [] (.cell 0 rfl rfl TI113 (fun h => absurd h (by decide)) .nil) ⟨rfl, rfl, rfl⟩
  obtain rfl : b26248 = false := hb26248.symm.trans (beq_eq_false_iff_ne.2 c26249)
  refine un rfl <| un rfl <| va (op_pick rfl rfl) <| vm rfl <| vm rfl <| ?_
  replace h := bd h
  obtain ⟨t26257, hA26258, h⟩ := h
  refine sC (o_call0 FO94 (tarryref01_May.ok i26209 t26257 hA26258) rfl rfl (ltn rfl) (All_of .nil)) <| ?_
  rintro _ _ _ ⟨rfl, rfl, rfl⟩
  replace h := iC h
  rcases h with ⟨c26259, h⟩ | ⟨c26259, h⟩
  · obtain rfl := c26259
    refine va (op_not rfl rfl) <| va (op_pick rfl rfl) <| dt <| cf <| sk <| sr <| vm rfl <| vm rfl <| vm rfl <| va (op_ari64 rfl rfl rfl) <| ?_
    replace h := iN h
    obtain ⟨c26260, h⟩ := h
    replace h := iN h
    obtain ⟨c26261, h⟩ := h
    refine va (op_sliceS ((wrap64 (i24002 + 1)).toNat) a0.size Tryz.underlying9 rfl ⟨⟨_, _, rfl, c26260, rfl⟩, rfl, tN (a := (wrap64 (i24002 + 1))) (b := (a0.size : Int)) rfl rfl c26261, Nat.le_refl _⟩ rfl) <|
     va (op_build (vals := [(0, iv i26209), (1, .string (a0.extract ((wrap64 (i24002 + 1)).toNat) a0.size))]) (vcs := [(0, [iv i26209]), (1, [.string (a0.extract ((wrap64 (i24002 + 1)).toNat) a0.size)])]) (cells := [iv i26209, .string (a0.extract ((wrap64 (i24002 + 1)).toNat) a0.size), iv 0]) SI113 rfl (.cons ⟨rfl, (.c rfl)⟩ (.cons ⟨rfl, (.c rfl)⟩ .nil)) (by kernel_rfl)) <|
     s1 (o_store 0 3 rfl rfl rfl TI113 (.agg (.of rfl)) rfl (len rfl)) <| dt <| VC.ret <| ?_
    simp only [Option.some.injEq, Prod.mk.injEq] at h
    obtain ⟨rfl, rfl, rfl⟩ := h
    exact rf [.cell 2 113] [] (.cell 0 rfl rfl TI113 (fun h => absurd h (by decide)) .nil) ⟨rfl, rfl, rfl⟩
  obtain rfl := Bool.eq_false_iff.2 c26259
  refine va (op_not rfl rfl) <| va (op_pick rfl rfl) <| dt <| ct <| sr <| va (op_build (vals := [(2, iv 5)]) (vcs := [(2, [iv 5])]) (cells := [iv 0, .string (⟨#[]⟩ : ByteArray), iv 5]) SI113 rfl (.cons ⟨rfl, (.c rfl)⟩ .nil) (by kernel_rfl)) <|
   s1 (o_store 0 3 rfl rfl rfl TI113 (.agg (.of rfl)) rfl (len rfl)) <| dt <| VC.ret <| VR.then <| ?_
  simp only [Option.some.injEq, Prod.mk.injEq] at h
  obtain ⟨rfl, rfl, rfl⟩ := h
  exact rf [.cell 2 113] [] (.cell 0 rfl rfl TI113 (fun h => absurd h (by decide)) .nil) ⟨rfl, rfl, rfl⟩

theorem tarryref02_Off.ok (k : Nat) (a0 : Int)  (r1 : Int) (h : tarryref02_Off.f k a0 = some r1) :
    VCalls Tryz.prog 80 [.int .u32 a0] [] (fun v G own => v = .int .u32 r1 ∧ G = [] ∧ own = []) := by
  refine VCalls.intro Tryz.func80 rfl (len rfl) fun E hC hW hD hU => ?_
  unfold tarryref02_Off.f at h
  refine sr <| vs rfl <| ds <| sr <| vs rfl <| dt <| VC.block <|
   VC.loop2 (fun (i26333 : Int) (i26334 : Int) => ⟨17, [(0, .int .u32 i26333), (2, .int .u32 0), (3, iv i26334)], [], [], []⟩) (fun (ml1 : Nat) (i26333 : Int) (i26334 : Int) => tarryref02_Off.l1 k ml1 i26333 i26334 = some r1) k a0 0 [] [] h ⟨rfl, ⟨rfl, rfl, rfl, trivial⟩, trivial, rfl, by decide, rfl, by decide⟩ (by intros; simp [tarryref02_Off.l1]) <|
   ?_
  clear h
  intro ml1 ihl1 i26333 i26334 h
  simp only [tarryref02_Off.l1] at h
  refine sq <| sr <| vm rfl <| VL.letter (decide (i26334 < 8)) fun b26345 hb26345 => va (op_cmp rfl rfl (congrArg some hb26345)) <| dt <| ?_
  replace h := iC h
  rcases h with ⟨c26346, h⟩ | ⟨c26346, h⟩
  · cases lT c26346 hb26345
    refine ct <| sk <| sq <| VC.block <| sr <| vm rfl <| va (op_rem rfl rfl (by decide) rfl) <| VL.letter (((i26333.tmod 2) == 1)) fun b26349 hb26349 => va (op_cmp rfl rfl (congrArg some hb26349)) <| dt <| ?_
    replace h := iC h
    rcases h with ⟨c26350, h⟩ | ⟨c26350, h⟩
    · obtain rfl : b26349 = true := hb26349.symm.trans (beq_iff_eq.2 c26350)
      refine ct <| rg <| vm rfl <| va (op_quo rfl rfl (by decide) rfl) <| va (op_bits rfl rfl rfl) <| vs rfl <| dn <| VN.block <| tr <| vm rfl <| va (op_ari64 rfl rfl rfl) <| vs rfl <| dn <| VN.again [] [] (ihl1 (Go.bits .xor .u32 (IntKind.u32.wrap (i26333.tdiv 2)) 2197175160) (wrap64 (i26334 + 1)) h)
    obtain rfl : b26349 = false := hb26349.symm.trans (beq_eq_false_iff_ne.2 c26350)
    refine cf <| rg <| vm rfl <| va (op_quo rfl rfl (by decide) rfl) <| vs rfl <| dn <| VN.block <| tr <| vm rfl <| va (op_ari64 rfl rfl rfl) <| vs rfl <| dn <| VN.again [] [] (ihl1 (IntKind.u32.wrap (i26333.tdiv 2)) (wrap64 (i26334 + 1)) h)
  cases lF c26346 hb26345
  refine cf <| VC.exit <| VX.then <| VX.then <| VX.hit <| tx <| vm rfl <| vs rfl <| dt <| VC.ret <| ?_
  obtain rfl := Option.some.inj h
  exact rq 2 rfl ⟨rfl, rfl, rfl⟩

theorem tarryref02_On.ok (k : Nat) (a0 : Int) (a1 : ByteArray)  (r1 : Int) (h : tarryref02_On.f k a0 a1 = some r1) :
    VCalls Tryz.prog 61 [.int .u32 a0, .string a1] [] (fun v G own => v = .int .u32 r1 ∧ G = [] ∧ own = []) := by
  refine VCalls.intro Tryz.func61 rfl (len rfl) fun E hC hW hD hU => ?_
  unfold tarryref02_On.f at h
  refine sr <| vs rfl <| nx <| vm rfl <| va (op_ari rfl rfl rfl) <| vs rfl <| ds <| sr <| vs rfl <| dt <| VC.block <|
   VC.loop2 (fun (i26378 : Int) (i26379 : Int) => ⟨23, [(0, .int .u32 i26378), (1, .string a1), (4, .int .u32 0), (5, iv i26379)], [], [], []⟩) (fun (ml1 : Nat) (i26378 : Int) (i26379 : Int) => tarryref02_On.l1 k a1 ml1 i26378 i26379 = some r1) k (IntKind.u32.wrap (4294967295 - a0)) 0 [] [] h ⟨rfl, ⟨rfl, rfl, rfl, rfl, trivial⟩, trivial, rfl, by decide, rfl, by decide⟩ (by intros; simp [tarryref02_On.l1]) <|
   ?_
  clear h
  intro ml1 ihl1 i26378 i26379 h
  simp only [tarryref02_On.l1] at h
  refine sq <| sr <| vm rfl <| vm rfl <| va (op_lens Tryz.underlying9 rfl) <| VL.letter (decide (i26379 < (a1.size : Int))) fun b26390 hb26390 => va (op_cmp rfl rfl (congrArg some hb26390)) <| dt <| ?_
  replace h := iC h
  rcases h with ⟨c26391, h⟩ | ⟨c26391, h⟩
  · cases lT c26391 hb26390
    refine ct <| sk <| sq <| VC.block <| rg <| vm rfl <| vm rfl <| vm rfl <| ?_
    replace h := iN h
    obtain ⟨c26392, h⟩ := h
    replace h := iN h
    obtain ⟨c26393, h⟩ := h
    refine va (op_indexS Tryz.underlying9 rfl rfl c26392 c26393 rfl) <| va (op_conv Tryz.underlying5 Tryz.underlying64 rfl rfl) <| va (op_bits rfl rfl rfl) <| ?_
    replace h := bd h
    obtain ⟨t26394, hA26395, h⟩ := h
    refine sC (o_call0 FO80 (tarryref02_Off.ok k (Go.bits .xor .u32 i26378 (IntKind.u32.wrap (bt a1 i26379))) t26394 hA26395) rfl rfl (ltn rfl) (All_of .nil)) <| ?_
    rintro _ _ _ ⟨rfl, rfl, rfl⟩
    refine vs rfl <| dn <| VN.block <| tr <| vm rfl <| va (op_ari64 rfl rfl rfl) <| vs rfl <| dn <| VN.again [] [] (ihl1 t26394 (wrap64 (i26379 + 1)) h)
  cases lF c26391 hb26390
  refine cf <| VC.exit <| VX.then <| VX.then <| VX.hit <| tx <| vm rfl <| va (op_ari rfl rfl rfl) <| vs rfl <| dt <| VC.ret <| ?_
  obtain rfl := Option.some.inj h
  exact rq 4 rfl ⟨rfl, rfl, rfl⟩

theorem tarryref02_Of.ok (k : Nat) (a0 : ByteArray)  (r1 : Int) (h : tarryref02_Of.f k a0 = some r1) :
    VCalls Tryz.prog 37 [.string a0] [] (fun v G own => v = .int .u32 r1 ∧ G = [] ∧ own = []) := by
  refine VCalls.intro Tryz.func37 rfl (len rfl) fun E hC hW hD hU => ?_
  unfold tarryref02_Of.f at h
  refine sr <| vs rfl <| nx <| vm rfl <| ?_
  replace h := bd h
  obtain ⟨t26396, hA26397, h⟩ := h
  refine sC (o_call0 FO61 (tarryref02_On.ok k 0 a0 t26396 hA26397) rfl rfl (ltn rfl) (All_of .nil)) <| ?_
  rintro _ _ _ ⟨rfl, rfl, rfl⟩
  refine vs rfl <| dt <| VC.ret <| ?_
  obtain rfl := Option.some.inj h
  exact rq 2 rfl ⟨rfl, rfl, rfl⟩

theorem tarryref02_Bytes.ok (k : Nat) (a0 : Int)  (r1 : ByteArray) (h : tarryref02_Bytes.f k a0 = some r1) :
    VCalls Tryz.prog 36 [.int .u32 a0] [] (fun v G own => v = .string r1 ∧ G = [] ∧ own = []) := by
  refine VCalls.intro Tryz.func36 rfl (len rfl) fun E hC hW hD hU => ?_
  unfold tarryref02_Bytes.f at h
  refine sr <| vs rfl <| nx <| sG (o_buildSlice (vals := []) (cells := #[]) (es := List.map enc_intu8 ([] : List Int)) Tryz.underlying68 TI5 Z5 rfl (by decide) (by decide) (by kernel_rfl) (by kernel_rfl) rfl (flat_map enc_intu8_ok _)) fun v26401 => vs rfl <| ds <| sr <| vs rfl <| dt <| VC.block <|
   VC.loop4 (fun (i26435 : Int) (v26437 : Value) (l26438 : List Int) (i26439 : Int) => ⟨20, [(0, .int .u32 i26435), (2, .string (⟨#[]⟩ : ByteArray)), (3, v26437), (4, iv i26439)], [], [], [(v26437, 5, 1, l26438.map enc_intu8)]⟩) (fun (ml1 : Nat) (i26435 : Int) (v26437 : Value) (l26438 : List Int) (i26439 : Int) => tarryref02_Bytes.l1 k ml1 i26435 l26438 i26439 = some r1) k a0 v26401 ([] : List Int) 0 [] [0] h ⟨rfl, ⟨rfl, rfl, rfl, rfl, trivial⟩, trivial, rfl, by decide, rfl, by decide⟩ (by intros; simp [tarryref02_Bytes.l1]) <|
   ?_
  clear h
  intro ml1 ihl1 i26435 v26437 l26438 i26439 h
  simp only [tarryref02_Bytes.l1] at h
  refine sq <| sr <| vm rfl <| VL.letter (decide (i26439 < 4)) fun b26451 hb26451 => va (op_cmp rfl rfl (congrArg some hb26451)) <| dt <| ?_
  replace h := iC h
  rcases h with ⟨c26452, h⟩ | ⟨c26452, h⟩
  · cases lT c26452 hb26451
    refine ct <| sk <| sq <| VC.block <| sr <| vm rfl <| vm rfl <| va (op_rem rfl rfl (by decide) rfl) <| va (op_conv Tryz.underlying64 Tryz.underlying5 rfl rfl) <|
     sG (o_buildSlice (vals := [(0, .int .u8 (IntKind.u8.wrap (i26435.tmod 256)))]) (cells := #[.int .u8 (IntKind.u8.wrap (i26435.tmod 256))]) (es := List.map enc_intu8 ([IntKind.u8.wrap (i26435.tmod 256)] : List Int)) Tryz.underlying68 TI5 Z5 rfl (by decide) (by decide) (by kernel_rfl) (by kernel_rfl) rfl (flat_map enc_intu8_ok _)) fun v26454 => ?_
    replace h := iN h
    obtain ⟨c26455, h⟩ := h
    refine sG (o_append 1 appm Tryz.underlying68 EI5 rfl rfl rfl (.inr ⟨0, _, rfl⟩) (bndm c26455)) fun v26456 => vs rfl <| dr <| vm rfl <| va (op_quo rfl rfl (by decide) rfl) <| vs rfl <| dn <| VN.block <| tr <| vm rfl <| va (op_ari64 rfl rfl rfl) <| vs rfl <| dn <|
     VN.again [] [1] (ihl1 (IntKind.u32.wrap (i26435.tdiv 256)) v26456 (l26438 ++ ([IntKind.u8.wrap (i26435.tmod 256)] : List Int)) (wrap64 (i26439 + 1)) h)
  cases lF c26452 hb26451
  refine cf <| VC.exit <| VX.then <| VX.then <| VX.hit <| tx <| vm rfl <| va (op_bytesStr_own (xs := l26438) 0 rfl rfl Tryz.underlying68 Tryz.underlying9 Tryz.underlying5 rfl rfl) <| vs rfl <| dt <| VC.ret <| ?_
  obtain rfl := Option.some.inj h
  exact rq 2 rfl ⟨rfl, rfl, rfl⟩

end Go.Proofs.YtipeglbeongfmaaGreat.PJournalSeals
