/- Written by a program of this repo: what the program's functions do, each as a Lean function, shown of the loaded code; or a statement's row over that; no condition of its own. -/
import Derived.Test.YtipeglbeongfmaaGreatPJournalCrashesx9
namespace Go.Proofs.YtipeglbeongfmaaGreat.PJournalCrashes
open Go Go.RowKit Go.Proofs.YtipeglbeongfmaaGreatV
set_option linter.unusedVariables false
set_option linter.unusedSimpArgs false
set_option maxHeartbeats 4000000
set_option maxRecDepth 100000

theorem disk_Crash.ok (k : Nat) (l0_0 : List ByteArray) (l0_1 : List S71) (a1 : Int) (a2 : Int) (v0_0 : Value) (v0_1 : Value) (r1 : List ByteArray) (r2 : List S71) (r3 : Int) (h : disk_Crash.f k l0_0 l0_1 a1 a2 = some (r1, r2, r3)) :
    VCalls Tryz.prog 40 [.agg #[v0_0, v0_1], .int .u64 a1, iv a2] [.row v0_0 1 (l0_0.map enc_str), .row v0_1 2 (l0_1.map enc71)] (fun v G own => ∃ w0 w1 : Value, v = .tuple #[.agg #[w0, w1], iv r3] ∧ G = [] ∧ own = [(w0, 9, 1, r1.map enc_str), (w1, 72, 2, r2.map enc71)]) := by
  refine VCalls.introU (fun T => T = 5) Tryz.func40 rfl (len rfl) fun E hC hW hD hU => ?_
  unfold disk_Crash.f at h
  refine sr <| sG (o_box rfl (.agg (.f 0 rfl (.f 1 rfl .nil)))) fun g7799 => sG (o_alloc Z25 ZL25) fun g7800 => vs rfl <| ds <| sr <| va (op_load 1 2 rfl rfl TI25 rfl (fun h => absurd h (by decide))) <| ?_
  replace h := bd h
  obtain ⟨t7812, hA7813, h⟩ := h
  refine sC (o_call0 FO64 (disk_Right.ok k l0_0 l0_1 v0_0 v0_1 t7812 hA7813) rfl rfl (ltn rfl) (All_of (.cons (mG 0 rfl) (.cons (mG 1 rfl) .nil)))) <| ?_
  rintro _ _ _ ⟨rfl, rfl, rfl⟩
  replace h := iC h
  rcases h with ⟨c7814, h⟩ | ⟨c7814, h⟩
  · obtain rfl := c7814
    refine va (op_not rfl rfl) <| dt <| cf <| sk <| sr <| va (op_fieldAddr FI25_0 rfl (add_at _ _ _)) <| va (op_load 1 1 rfl rfl TI22 rfl (by decide)) <| ?_
    replace h := bd h
    obtain ⟨r7815, hA7816, h⟩ := h
    refine sC (o_call_b0 FO65 (slices_Clone_string_string.ok l0_0 v0_0 r7815 hA7816) rfl rfl (ltn rfl) (All_of (.cons (.inl (mG 0 rfl)) .nil)) (by rintro _ _ _ ⟨_, rfl, rfl, rfl⟩; rfl)) <| ?_
    rintro v7818 _ _ ⟨_, rfl, rfl, rfl⟩
    refine vs rfl <| nx <| vs rfl <| dt <| VC.join3 (fun (v8222 : Value) (l8223 : List ByteArray) (i8224 : Int) => ⟨77, [(2, iv a2), (3, pt g7799 0), (6, pt g7800 0), (7, iv 0), (8, v8222), (9, iv i8224)], [.row v0_0 1 (l0_0.map enc_str), .row v0_1 2 (l0_1.map enc71)], [(g7800, 25, [sn, sn]), (g7799, 25, [v0_0, v0_1])], [(v8222, 9, 1, l8223.map enc_str)]⟩) (fun (v8222 : Value) (l8223 : List ByteArray) (i8224 : Int) => disk_Crash.j2 k a2 l0_1 l8223 i8224 = some (r1, r2, r3)) ?_ ?_
    · refine sr <| va (op_fieldAddr FI25_1 rfl (add_at _ _ _)) <| va (op_load 1 1 rfl rfl TI23 rfl (by decide)) <| va (op_len (m := l0_1.length) 1 lenm Tryz.underlying23 rfl rfl) <| vm rfl <| dt <| VC.block <|
       VC.loop4 (fun (v8159 : Value) (l8160 : List ByteArray) (i8161 : Int) (i8162 : Int) => ⟨77, [(1, .int .u64 a1), (2, iv a2), (3, pt g7799 0), (6, pt g7800 0), (7, iv 0), (8, v8159), (9, iv i8161), (22, v0_1), (23, iv (l0_1.length : Int)), (24, iv i8162)], [.row v0_1 2 (l0_1.map enc71), .row v0_0 1 (l0_0.map enc_str)], [(g7800, 25, [sn, sn]), (g7799, 25, [v0_0, v0_1])], [(v8159, 9, 1, l8160.map enc_str)]⟩) (fun (ml3 : Nat) (v8159 : Value) (l8160 : List ByteArray) (i8161 : Int) (i8162 : Int) => disk_Crash.l3 k a1 a2 l0_1 ml3 l8160 i8161 i8162 = some (r1, r2, r3)) k v7818 r7815 (-1) 0 [0, 1] [0] h ⟨rfl, ⟨rfl, rfl, rfl, rfl, rfl, rfl, rfl, rfl, rfl, rfl, trivial⟩, ⟨⟨1, rfl⟩, ⟨0, rfl⟩, trivial⟩, rfl, by decide, rfl, by decide⟩ (by intros; simp [disk_Crash.l3]) <|
       ?_
      clear h
      intro ml3 ihl3 v8159 l8160 i8161 i8162 h
      simp only [disk_Crash.l3] at h
      refine sr <| VL.letter (decide (i8162 < (l0_1.length : Int))) fun b8192 hb8192 => va (op_cmp rfl rfl (congrArg some hb8192)) <| ds <| ?_
      replace h := iC h
      rcases h with ⟨c8194, h⟩ | ⟨c8194, h⟩
      · cases lT c8194 hb8192
        refine ct <| sk <| sq <| VC.block <| sr <| vm rfl <| ?_
        replace h := iN h
        obtain ⟨c8208, h⟩ := h
        replace h := bd h
        obtain ⟨x8209, hx8209, h⟩ := h
        refine VL.open (m := l0_1.length) 0 lenm rfl (pos_get hx8209) <| ?_
        rintro ad8210 n8211 rfl
        refine va (op_indexAddr Tryz.underlying23 TI72 rfl rfl c8208 (lt_get c8208 hx8209) rfl) <| va (op_load_row (sz := 2) (o := 0) 0 i8162.toNat 2 rfl rfl (get_map hx8209) TI72 rfl (fun h => absurd h (by decide))) <| sG (o_alloc Z72 ZL72) fun g8212 => vs rfl <|
         s1 (o_store 0 2 rfl rfl rfl TI72 (.agg (.of rfl)) rfl (len rfl)) <| nx <| vm rfl <| vm rfl <| va (op_shr rfl rfl c8208 rfl) <| va (op_bits rfl rfl rfl) <|
         VL.letter (((Go.bits .and .u64 (a1.fdiv (2 ^ min i8162.toNat IntKind.u64.bits)) 1) == 1)) fun b8213 hb8213 => va (op_cmp rfl rfl (congrArg some hb8213)) <| dt <| ?_
        replace h := iC h
        rcases h with ⟨c8214, h⟩ | ⟨c8214, h⟩
        · obtain rfl : b8213 = true := hb8213.symm.trans (beq_iff_eq.2 c8214)
          refine ct <| rg <| vm rfl <| va (op_fieldAddr FI72_0 rfl (add_at _ _ _)) <| va (op_load 0 1 rfl rfl TI3 rfl (by decide)) <| va (op_fieldAddr FI72_1 rfl (add_at _ _ _)) <| va (op_load 0 1 rfl rfl TI9 rfl (by decide)) <| ?_
          replace h := iN h
          obtain ⟨c8215, h⟩ := h
          replace h := bd h
          obtain ⟨x8216, hx8216, h⟩ := h
          refine VL.openR (m := l8160.length) 0 lenm rfl (pos_get hx8216) <| ?_
          rintro g8217 n8218 rfl
          refine va (op_indexAddr Tryz.underlying22 TI9 rfl rfl c8215 (lt_get c8215 hx8216) (add_zero_at _ _)) <| s1 (o_store_own (sz := 1) (o := 0) (es3 := List.map enc_str (l8160.set x8209.f0.toNat x8209.f1)) 0 x8209.f0.toNat 1 lenm (setm rfl) rfl rfl rfl (get_map hx8216) TI9 (.c rfl) rfl (len rfl)) <|
           dn <| VN.block <| tr <| va (op_ari64 rfl rfl rfl) <| vm rfl <| dn <| VN.again [1, 2] [0] (ihl3 (.slice (some ⟨g8217, 0, none⟩) l8160.length n8218) (l8160.set x8209.f0.toNat x8209.f1) i8161 (wrap64 (i8162 + 1)) h)
        obtain rfl : b8213 = false := hb8213.symm.trans (beq_eq_false_iff_ne.2 c8214)
        refine cf <| rg <| vm rfl <| vs rfl <| dn <| VN.block <| tr <| va (op_ari64 rfl rfl rfl) <| vm rfl <| dn <| VN.again [1, 2] [0] (ihl3 v8159 l8160 i8162 (wrap64 (i8162 + 1)) h)
      cases lF c8194 hb8192
      refine cf <| VC.exit <| VX.then <| VX.then <| VX.hit <| VN.meet3 v8159 l8160 i8161 [0, 1] [0] h
    clear h
    intro v8222 l8223 i8224 h
    unfold disk_Crash.j2 at h
    refine sq <| sr <| vm rfl <| VL.letter (decide (i8224 ≥ 0)) fun b8260 hb8260 => va (op_cmp rfl rfl (congrArg some hb8260)) <| vm rfl <| ?_
    replace h := iC h
    rcases h with ⟨c8261, h⟩ | ⟨c8261, h⟩
    · cases lT c8261 hb8260
      refine vm rfl <| VL.letter (decide (a2 ≥ 1)) fun b8262 hb8262 => va (op_cmp rfl rfl (congrArg some hb8262)) <| va (op_pick rfl rfl) <| vm rfl <| ?_
      replace h := iC h
      rcases h with ⟨c8263, h⟩ | ⟨c8263, h⟩
      · cases lT c8263 hb8262
        refine vm rfl <| VL.letter (decide (a2 < 64)) fun b8264 hb8264 => va (op_cmp rfl rfl (congrArg some hb8264)) <| va (op_pick rfl rfl) <| dt <| ?_
        replace h := iC h
        rcases h with ⟨c8265, h⟩ | ⟨c8265, h⟩
        · cases lT c8265 hb8264
          refine ct <| sr <| va (op_fieldAddr FI25_1 rfl (add_at _ _ _)) <| va (op_load 1 1 rfl rfl TI23 rfl (by decide)) <| vm rfl <| ?_
          replace h := iN h
          obtain ⟨c8266, h⟩ := h
          replace h := bd h
          obtain ⟨x8267, hx8267, h⟩ := h
          refine VL.open (m := l0_1.length) 1 lenm rfl (pos_get hx8267) <| ?_
          rintro ad8268 n8269 rfl
          refine va (op_indexAddr Tryz.underlying23 TI72 rfl rfl c8266 (lt_get c8266 hx8267) rfl) <| va (op_load_row (sz := 2) (o := 0) 1 i8224.toNat 2 rfl rfl (get_map hx8267) TI72 rfl (fun h => absurd h (by decide))) <|
           sG (o_alloc Z72 ZL72) fun g8270 => s1 (o_store 0 2 rfl rfl rfl TI72 (.agg (.of rfl)) rfl (len rfl)) <| nx <| vm rfl <| va (op_fieldAddr FI72_0 rfl (add_at _ _ _)) <| va (op_load 0 1 rfl rfl TI3 rfl (by decide)) <| ?_
          replace h := iN h
          obtain ⟨c8271, h⟩ := h
          replace h := bd h
          obtain ⟨x8272, hx8272, h⟩ := h
          refine VL.openR (m := l8223.length) 0 lenm rfl (pos_get hx8272) <| ?_
          rintro g8273 n8274 rfl
          refine va (op_indexAddr Tryz.underlying22 TI9 rfl rfl c8271 (lt_get c8271 hx8272) (add_zero_at _ _)) <| va (op_load_own (sz := 1) (o := 0) 0 x8267.f0.toNat 1 rfl rfl (get_map hx8272) TI9 rfl (by decide)) <|
           o_strBytesB Tryz.underlying9 Tryz.underlying68 Tryz.underlying5 (by rw [hU]) rfl (ltn rfl) rfl fun g8275 n8276 z8277 => vs rfl <| nx <| vm rfl <| va (op_fieldAddr FI72_1 rfl (add_at _ _ _)) <| va (op_load 1 1 rfl rfl TI9 rfl (by decide)) <| vm rfl <| ?_
          replace h := iN h
          obtain ⟨c8278, h⟩ := h
          replace h := iN h
          obtain ⟨c8279, h⟩ := h
          refine va (op_sliceS 0 a2.toNat Tryz.underlying9 rfl ⟨rfl, ⟨_, _, rfl, c8278, rfl⟩, Nat.zero_le _, tN (a := a2) (b := (x8267.f1.size : Int)) rfl rfl c8279⟩ rfl) <| ?_
          replace h := iN h
          obtain ⟨c8280, h⟩ := h
          refine s1 (o_copyS 0 Tryz.underlying68 TI5 rfl rfl rfl c8280 rfl) <| dr <| vm rfl <| va (op_fieldAddr FI72_0 rfl (add_at _ _ _)) <| va (op_load 1 1 rfl rfl TI3 rfl (by decide)) <| vm rfl <| ?_
          replace h := iN h
          obtain ⟨c8281, h⟩ := h
          refine va (op_bytesStrB 0 Tryz.underlying68 Tryz.underlying9 Tryz.underlying5 rfl rfl c8281) <| ?_
          replace h := bd h
          obtain ⟨x8282, hx8282, h⟩ := h
          refine va (op_indexAddr Tryz.underlying22 TI9 rfl rfl c8271 (lt_get c8271 hx8282) (add_zero_at _ _)) <|
           s1 (o_store_own (sz := 1) (o := 0) (es3 := List.map enc_str (l8223.set x8267.f0.toNat (strOfNums ((byI (x8267.f1.extract 0 a2.toNat)).take (min (x8267.f1.extract 0 a2.toNat).size x8272.size) ++ (byI x8272).drop (min (x8267.f1.extract 0 a2.toNat).size x8272.size))))) 0 x8267.f0.toNat 1 lenm (setm rfl) rfl rfl rfl (get_map hx8282) TI9 (.c rfl) rfl (len rfl)) <|
           nx <| vm rfl <| va (op_build (vals := [(0, (.slice (some ⟨g8273, 0, none⟩) l8223.length n8274))]) (vcs := [(0, [(.slice (some ⟨g8273, 0, none⟩) l8223.length n8274)])]) (cells := [(.slice (some ⟨g8273, 0, none⟩) l8223.length n8274), sn]) SI25 rfl (.cons ⟨rfl, (.r 0 rfl)⟩ .nil) (by kernel_rfl)) <|
           s1 (o_store 2 2 rfl rfl rfl TI25 (.agg (.r 0 rfl (.c rfl .nil))) rfl (len rfl)) <| vs rfl <| dt <| VC.ret <| ?_
          simp only [Option.some.injEq, Prod.mk.injEq] at h
          obtain ⟨rfl, rfl, rfl⟩ := h
          exact VR.nilRow' 72 2 <| rf [.cell 6 25, .tmp 7] [1, 0] (.cell 2 rfl rfl TI25 (fun h => absurd h (by decide)) (.tmp rfl .nil)) ⟨(.slice (some ⟨g8273, 0, none⟩) l8223.length n8274), sn, rfl, rfl, rfl⟩
        cases lF c8265 hb8264
        refine cf <| sk <| sr <| vm rfl <| va (op_build (vals := [(0, v8222)]) (vcs := [(0, [v8222])]) (cells := [v8222, sn]) SI25 rfl (.cons ⟨rfl, (.r 0 rfl)⟩ .nil) (by kernel_rfl)) <| s1 (o_store 0 2 rfl rfl rfl TI25 (.agg (.r 0 rfl (.c rfl .nil))) rfl (len rfl)) <| vs rfl <| dt <| VC.ret <|
         ?_
        simp only [Option.some.injEq, Prod.mk.injEq] at h
        obtain ⟨rfl, rfl, rfl⟩ := h
        exact VR.nilRow' 72 2 <| rf [.cell 6 25, .tmp 7] [1, 0] (.cell 0 rfl rfl TI25 (fun h => absurd h (by decide)) (.tmp rfl .nil)) ⟨v8222, sn, rfl, rfl, rfl⟩
      cases lF c8263 hb8262
      refine un rfl <| un rfl <| va (op_pick rfl rfl) <| dt <| cf <| sk <| sr <| vm rfl <| va (op_build (vals := [(0, v8222)]) (vcs := [(0, [v8222])]) (cells := [v8222, sn]) SI25 rfl (.cons ⟨rfl, (.r 0 rfl)⟩ .nil) (by kernel_rfl)) <|
       s1 (o_store 0 2 rfl rfl rfl TI25 (.agg (.r 0 rfl (.c rfl .nil))) rfl (len rfl)) <| vs rfl <| dt <| VC.ret <| ?_
      simp only [Option.some.injEq, Prod.mk.injEq] at h
      obtain ⟨rfl, rfl, rfl⟩ := h
      exact VR.nilRow' 72 2 <| rf [.cell 6 25, .tmp 7] [1, 0] (.cell 0 rfl rfl TI25 (fun h => absurd h (by decide)) (.tmp rfl .nil)) ⟨v8222, sn, rfl, rfl, rfl⟩
    cases lF c8261 hb8260
    refine un rfl <| un rfl <| va (op_pick rfl rfl) <| vm rfl <| un rfl <| un rfl <| va (op_pick rfl rfl) <| dt <| cf <| sk <| sr <| vm rfl <| va (op_build (vals := [(0, v8222)]) (vcs := [(0, [v8222])]) (cells := [v8222, sn]) SI25 rfl (.cons ⟨rfl, (.r 0 rfl)⟩ .nil) (by kernel_rfl)) <|
     s1 (o_store 0 2 rfl rfl rfl TI25 (.agg (.r 0 rfl (.c rfl .nil))) rfl (len rfl)) <| vs rfl <| dt <| VC.ret <| ?_
    simp only [Option.some.injEq, Prod.mk.injEq] at h
    obtain ⟨rfl, rfl, rfl⟩ := h
    exact VR.nilRow' 72 2 <| rf [.cell 6 25, .tmp 7] [1, 0] (.cell 0 rfl rfl TI25 (fun h => absurd h (by decide)) (.tmp rfl .nil)) ⟨v8222, sn, rfl, rfl, rfl⟩
  obtain rfl := Bool.eq_false_iff.2 c7814
  refine va (op_not rfl rfl) <| dt <| ct <| sr <| va (op_build (vals := []) (vcs := []) (cells := [sn, sn]) SI25 rfl .nil (by kernel_rfl)) <| s1 (o_store 0 2 rfl rfl rfl TI25 (.agg (.of rfl)) rfl (len rfl)) <| vs rfl <| dt <| VC.ret <| VR.then <| ?_
  simp only [Option.some.injEq, Prod.mk.injEq] at h
  obtain ⟨rfl, rfl, rfl⟩ := h
  exact VR.nilRow' 9 1 <| VR.nilRow' 72 2 <| rf [.cell 6 25, .tmp 7] [1, 0] (.cell 0 rfl rfl TI25 (fun h => absurd h (by decide)) (.tmp rfl .nil)) ⟨sn, sn, rfl, rfl, rfl⟩

theorem disk_Flush.ok (k : Nat) (l0_0 : List ByteArray) (l0_1 : List S71) (v0_0 : Value) (v0_1 : Value) (r1 : List ByteArray) (r2 : List S71) (r3 : Int) (h : disk_Flush.f k l0_0 l0_1 = some (r1, r2, r3)) :
    VCalls Tryz.prog 52 [.agg #[v0_0, v0_1]] [.row v0_0 1 (l0_0.map enc_str), .row v0_1 2 (l0_1.map enc71)] (fun v G own => ∃ w0 w1 : Value, v = .tuple #[.agg #[w0, w1], iv r3] ∧ G = [] ∧ own = [(w0, 9, 1, r1.map enc_str), (w1, 72, 2, r2.map enc71)]) := by
  refine VCalls.intro Tryz.func52 rfl (len rfl) fun E hC hW hD hU => ?_
  unfold disk_Flush.f at h
  refine sr <| sG (o_box rfl (.agg (.f 0 rfl (.f 1 rfl .nil)))) fun g7795 => sG (o_alloc Z25 ZL25) fun g7796 => vs rfl <| nx <| va (op_load 1 2 rfl rfl TI25 rfl (fun h => absurd h (by decide))) <| ?_
  replace h := bd h
  obtain ⟨⟨r8291, r8292, t8293⟩, hA8294, h⟩ := h
  dsimp only at h
  refine sC (o_call0 FO40 (disk_Crash.ok k l0_0 l0_1 18446744073709551615 0 v0_0 v0_1 r8291 r8292 t8293 hA8294) rfl rfl (ltn rfl) (All_of (.cons (mG 0 rfl) (.cons (mG 1 rfl) .nil)))) <| ?_
  rintro _ _ _ ⟨v8296, v8298, rfl, rfl, rfl⟩
  refine va (op_extract rfl rfl) <| va (op_extract rfl rfl) <| s1 (o_store 0 2 rfl rfl rfl TI25 (.agg (.r 0 rfl (.r 1 rfl .nil))) rfl (len rfl)) <| vs rfl <| dt <| VC.ret <| ?_
  simp only [Option.some.injEq, Prod.mk.injEq] at h
  obtain ⟨rfl, rfl, rfl⟩ := h
  exact rf [.cell 2 25, .tmp 3] [0, 1] (.cell 0 rfl rfl TI25 (fun h => absurd h (by decide)) (.tmp rfl .nil)) ⟨v8296, v8298, rfl, rfl, rfl⟩

theorem journal_head_sector.ok (a0_0 : List Int)  (r1 : ByteArray) (h : journal_head_sector.f a0_0 = some r1) :
    VCalls Tryz.prog 56 [.agg (ints .u8 a0_0).toArray] [] (fun v G own => v = .string r1 ∧ G = [] ∧ own = []) := by
  refine VCalls.intro Tryz.func56 rfl (len rfl) fun E hC hW hD hU => ?_
  unfold journal_head_sector.f at h
  refine sr <| sG (o_box rfl cells_ints) fun g8310 => vs rfl <| dt <| ?_
  replace h := iN h
  obtain ⟨c8311, h⟩ := h
  replace h := iN h
  obtain ⟨c8316, h⟩ := h
  refine VC.freeze' 0 rfl <| VC.join0 (⟨8, [(2, .string ((strOfNums a0_0) ++ (strOfNums a0_0)))], [], [], []⟩) (True) ?_ ?_
  · refine dw ⟨0, [], [.at_ ⟨g8310, 0, none⟩ (ints .u8 a0_0)], [], []⟩ 6 <| VA.all [0, 2] (by kernel_rfl) (by simp) <|
     VAll.consG (listed' := LB 6 1) rfl (o_sliceA (es := List.map enc_intu8 a0_0) 0 Tryz.underlying82 TI5 rfl rfl c8311 rfl (by decide)) rfl (by kernel_rfl) (fun _ => ⟨⟨⟨1, rfl⟩, trivial⟩, trivial, trivial⟩) ?_ ?_
    · intro v8313
      exact VA.more ⟨0, [], [.at_ ⟨g8310, 0, none⟩ (ints .u8 a0_0), .row v8313 1 (a0_0.map enc_intu8)], [], []⟩ ⟨⟨⟨0, rfl⟩, trivial⟩, trivial, trivial⟩ <| av 1 3 rfl (op_bytesStr (xs := a0_0) 1 rfl rfl Tryz.underlying68 Tryz.underlying9 Tryz.underlying5 rfl rfl) <|
       aG 2 7 rfl (o_sliceA (es := List.map enc_intu8 a0_0) 1 Tryz.underlying82 TI5 rfl rfl c8311 rfl (by decide)) fun v8315 => VA.more ⟨0, [], [.at_ ⟨g8310, 0, none⟩ (ints .u8 a0_0), .row v8313 1 (a0_0.map enc_intu8), .row v8315 1 (a0_0.map enc_intu8)], [], []⟩ ⟨⟨⟨0, rfl⟩, ⟨1, rfl⟩, trivial⟩, trivial, trivial⟩ <|
       av 3 15 rfl (op_bytesStr (xs := a0_0) 2 rfl rfl Tryz.underlying68 Tryz.underlying9 Tryz.underlying5 rfl rfl) <| av 4 31 rfl (op_adds rfl rfl rfl c8316) <| av 5 63 rfl (ag rfl) <| ad <| VN.meet0 [] [] trivial
    refine VAll.consG (listed' := LB 6 4) rfl (o_sliceA (es := List.map enc_intu8 a0_0) 0 Tryz.underlying82 TI5 rfl rfl c8311 rfl (by decide)) rfl (by kernel_rfl) (fun _ => ⟨⟨⟨1, rfl⟩, trivial⟩, trivial, trivial⟩) ?_ VAll.nil
    intro v8315
    exact VA.more ⟨0, [], [.at_ ⟨g8310, 0, none⟩ (ints .u8 a0_0), .row v8315 1 (a0_0.map enc_intu8)], [], []⟩ ⟨⟨⟨0, rfl⟩, trivial⟩, trivial, trivial⟩ <| av 3 12 rfl (op_bytesStr (xs := a0_0) 1 rfl rfl Tryz.underlying68 Tryz.underlying9 Tryz.underlying5 rfl rfl) <|
     aG 0 13 rfl (o_sliceA (es := List.map enc_intu8 a0_0) 1 Tryz.underlying82 TI5 rfl rfl c8311 rfl (by decide)) fun v8313 => VA.more ⟨0, [], [.at_ ⟨g8310, 0, none⟩ (ints .u8 a0_0), .row v8315 1 (a0_0.map enc_intu8), .row v8313 1 (a0_0.map enc_intu8)], [], []⟩ ⟨⟨⟨0, rfl⟩, ⟨1, rfl⟩, trivial⟩, trivial, trivial⟩ <|
     av 1 15 rfl (op_bytesStr (xs := a0_0) 2 rfl rfl Tryz.underlying68 Tryz.underlying9 Tryz.underlying5 rfl rfl) <| av 4 31 rfl (op_adds rfl rfl rfl c8316) <| av 5 63 rfl (ag rfl) <| ad <| VN.meet0 [] [] trivial
  intro _
  refine VC.ret <| ?_
  obtain rfl := Option.some.inj h
  exact rq 2 rfl ⟨rfl, rfl, rfl⟩

theorem journal_plan_second.ok (k : Nat) (a0_0 : Int) (a0_1 : Int) (a0_2 : ByteArray) (l1_0 : List ByteArray) (l1_1 : List S71) (a1_2 : Int) (a1_3 : Int) (a1_4 : Int) (l1_5 : List ByteArray) (l1_6 : List ByteArray) (v1_0 : Value) (v1_1 : Value) (v1_5 : Value) (v1_6 : Value) (r1 : List ByteArray) (r2 : List S71) (h : journal_plan_second.f k a0_0 a0_1 a0_2 l1_0 l1_1 a1_2 a1_3 a1_4 l1_5 l1_6 = some (r1, r2)) :
    VCalls Tryz.prog 39 [.agg #[iv a0_0, iv a0_1, .string a0_2], .agg #[v1_0, v1_1, iv a1_2, iv a1_3, iv a1_4, v1_5, v1_6]] [.row v1_0 1 (l1_0.map enc_str), .row v1_1 2 (l1_1.map enc71), .row v1_5 1 (l1_5.map enc_str), .row v1_6 1 (l1_6.map enc_str)] (fun v G own => ∃ w0 w1 : Value, v = .agg #[w0, w1] ∧ G = [.row w0 1 (r1.map enc_str), .row w1 2 (r2.map enc71)] ∧ own = []) := by
  refine VCalls.intro Tryz.func39 rfl (len rfl) fun E hC hW hD hU => ?_
  unfold journal_plan_second.f at h
  refine sr <| sG (o_box rfl (.agg (.of rfl))) fun g8331 => sG (o_box rfl (.agg (.f 0 rfl (.f 1 rfl (.c rfl (.c rfl (.c rfl (.f 2 rfl (.f 3 rfl .nil))))))))) fun g8332 => sG (o_alloc Z25 ZL25) fun g8333 => nx <| va (op_load 2 3 rfl rfl TI53 rfl (fun h => absurd h (by decide))) <|
   va (op_load 1 7 rfl rfl TI27 rfl (fun h => absurd h (by decide))) <| ?_
  replace h := bd h
  obtain ⟨⟨r8334, r8335⟩, hA8336, h⟩ := h
  dsimp only at h
  refine sC (o_call0 FO38 (journal_plan_first.ok k a0_0 a0_1 a0_2 l1_0 l1_1 a1_2 a1_3 a1_4 l1_5 l1_6 v1_0 v1_1 v1_5 v1_6 r8334 r8335 hA8336) rfl rfl (ltn rfl) (All_of (.cons (mG 0 rfl) (.cons (mG 1 rfl) (.cons (mG 2 rfl) (.cons (mG 3 rfl) .nil)))))) <| ?_
  rintro _ _ _ ⟨v8338, v8340, rfl, rfl, rfl⟩
  replace h := bd h
  obtain ⟨⟨r8341, r8342, t8343⟩, hA8344, h⟩ := h
  dsimp only at h
  refine sC (o_call0 FO52 (disk_Flush.ok k r8334 r8335 v8338 v8340 r8341 r8342 t8343 hA8344) rfl rfl (ltn rfl) (All_of (.cons (mG 0 rfl) (.cons (mG 1 rfl) .nil)))) <| ?_
  rintro _ _ _ ⟨v8346, v8348, rfl, rfl, rfl⟩
  refine vm rfl <| va (op_extract rfl rfl) <| va (op_extract rfl rfl) <| sG (o_alloc Z25 ZL25) fun g8349 => s1 (o_store 0 2 rfl rfl rfl TI25 (.agg (.r 0 rfl (.r 1 rfl .nil))) rfl (len rfl)) <| vs rfl <| nx <| va (op_fieldAddr FI27_1 rfl (add_at _ _ _)) <|
   va (op_load 2 1 rfl rfl TI3 rfl (by decide)) <| va (op_ari64 rfl rfl rfl) <| vs rfl <| dt <| ?_
  replace h := bd h
  obtain ⟨r8350, hA8351, h⟩ := h
  replace h := bd h
  obtain ⟨t8352, hA8353, h⟩ := h
  replace h := bd h
  obtain ⟨⟨r8354, r8355, t8356⟩, hA8357, h⟩ := h
  dsimp only at h
  refine VC.freezeRow' 0 rfl <| VC.freezeRow' 0 rfl <|
   VC.join2 (fun (v8359 : Value) (v8361 : Value) => ⟨37, [(4, pt g8333 0), (5, pt g8349 0)], [.row v8359 1 (r8354.map enc_str), .row v8361 2 (r8355.map enc71)], [(g8349, 25, [v8359, v8361]), (g8333, 25, [sn, sn])], []⟩) (fun (v8359 : Value) (v8361 : Value) => True) ?_ ?_
  · refine VC.drawB ⟨0, [], [], [(g8331, 53, [iv a0_0, iv a0_1, .string a0_2])], []⟩ [18] ⟨0, [], [], [(g8349, 25, [v8346, v8348])], []⟩ (by kernel_rfl) rfl (by kernel_rfl) (n := 19) (listed := LB 19 0) <|
     VB.vb (i := 0) (listed' := LB 19 1) rfl (op_load 0 2 rfl rfl TI25 rfl (fun h => absurd h (by decide))) rfl (by kernel_rfl) (by kernel_rfl) (by kernel_rfl) (by kernel_rfl) (by kernel_rfl) (by kernel_rfl) (PartP.on ⟨trivial, ⟨⟨3, rfl⟩, trivial⟩, trivial⟩ ⟨trivial, ⟨⟨0, rfl⟩, trivial⟩, trivial⟩) (fun _ _ _ h => h) <|
     bv 1 3 rfl (mv rfl) <| bv 2 7 rfl (op_rem rfl rfl (by decide) rfl) <| bv 3 15 rfl (mv rfl) <| bv 4 31 rfl (op_fieldAddr FI53_0 rfl (add_at _ _ _)) <| bv 5 63 rfl (op_load 0 1 rfl rfl TI3 rfl (by decide)) <| bv 6 127 rfl (op_fieldAddr FI53_1 rfl (add_at _ _ _)) <|
     bv 7 255 rfl (op_load 0 1 rfl rfl TI3 rfl (by decide)) <| bv 8 511 rfl (op_fieldAddr FI53_2 rfl (add_at _ _ _)) <| bv 9 1023 rfl (op_load 0 1 rfl rfl TI9 rfl (by decide)) <| bv 10 2047 rfl (op_lens Tryz.underlying9 rfl) <| bv 11 4095 rfl (op_ari64 rfl rfl rfl) <|
     VB.oneC (i := 12) (listed' := LB 19 8191) (by kernel_rfl) rfl (o_call0 FO55 (journal_headOf.ok k (wrap64 (a1_2 + 1)) a0_0 (wrap64 (a0_1 + (a0_2.size : Int))) r8350 hA8351) rfl rfl (ltn rfl) (All_of .nil)) rfl (by kernel_rfl) <| ?_
    rintro _ _ _ ⟨rfl, rfl, rfl⟩
    refine ⟨(PartP.on ⟨trivial, ⟨⟨3, rfl⟩, trivial⟩, trivial⟩ ⟨trivial, ⟨⟨0, rfl⟩, trivial⟩, trivial⟩), ?_⟩
    refine VB.oneC (i := 13) (listed' := LB 19 16383) (by kernel_rfl) rfl (o_call0 FO56 (journal_head_sector.ok r8350 t8352 hA8353) rfl rfl (ltn rfl) (All_of .nil)) rfl (by kernel_rfl) <| ?_
    rintro _ _ _ ⟨rfl, rfl, rfl⟩
    refine ⟨(PartP.on ⟨trivial, ⟨⟨3, rfl⟩, trivial⟩, trivial⟩ ⟨trivial, ⟨⟨0, rfl⟩, trivial⟩, trivial⟩), ?_⟩
    refine VB.oneC (i := 14) (listed' := LB 19 32767) (by kernel_rfl) rfl (o_call0 FO54 (disk_Put.ok k r8341 r8342 ((wrap64 (a1_2 + 1)).tmod 2) t8352 v8346 v8348 r8354 r8355 t8356 hA8357) rfl rfl (ltn rfl) (All_of (.cons (mG 1 rfl) (.cons (mG 0 rfl) .nil)))) rfl (by kernel_rfl) <| ?_
    rintro _ _ _ ⟨v8359, v8361, rfl, rfl, rfl⟩
    refine ⟨(PartP.on ⟨trivial, ⟨⟨3, rfl⟩, trivial⟩, trivial⟩ ⟨trivial, ⟨⟨0, rfl⟩, trivial⟩, trivial⟩), ?_⟩
    exact VB.more ⟨0, [], [.row v8359 1 (r8354.map enc_str), .row v8361 2 (r8355.map enc71)], [(g8331, 53, [iv a0_0, iv a0_1, .string a0_2])], []⟩ ⟨trivial, ⟨⟨0, rfl⟩, trivial⟩, trivial⟩ <| bv 15 65535 rfl (mv rfl) <| bv 16 131071 rfl (op_extract rfl rfl) <|
     bv 17 262143 rfl (op_extract rfl rfl) <| VB.one1 (i := 18) (listed' := LB 19 524287) (by kernel_rfl) rfl (o_store 0 2 rfl rfl rfl TI25 (.agg (.f 0 rfl (.f 1 rfl .nil))) rfl (len rfl)) rfl (by kernel_rfl) (PartP.off (by kernel_rfl) ⟨⟨⟨0, rfl⟩, ⟨1, rfl⟩, trivial⟩, ⟨⟨3, rfl⟩, trivial⟩, trivial⟩) <|
     VB.done (by kernel_rfl) <| VN.meet2 v8359 v8361 [0, 1] [] trivial
  intro v8359 v8361 _
  refine sr <| va (op_load 0 2 rfl rfl TI25 rfl (fun h => absurd h (by decide))) <| s1 (o_store 1 2 rfl rfl rfl TI25 (.agg (.f 0 rfl (.f 1 rfl .nil))) rfl (len rfl)) <| dt <| VC.ret <| ?_
  simp only [Option.some.injEq, Prod.mk.injEq] at h
  obtain ⟨rfl, rfl⟩ := h
  exact rf [.cell 4 25] [] (.cell 1 rfl rfl TI25 (fun h => absurd h (by decide)) .nil) ⟨v8359, v8361, rfl, rfl, rfl⟩

end Go.Proofs.YtipeglbeongfmaaGreat.PJournalCrashes
