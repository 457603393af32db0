/- Written by a program of this repo: what the program's functions do, each as a Lean function, shown of the loaded code; or a statement's row over that; no condition of its own. -/
import Derived.Test.YtipeglbeongfmaaGreatPJournalSealsx9
namespace Go.Proofs.YtipeglbeongfmaaGreat.PJournalSeals
open Go Go.RowKit Go.Proofs.YtipeglbeongfmaaGreatV
set_option linter.unusedVariables false
set_option linter.unusedSimpArgs false
set_option maxHeartbeats 4000000
set_option maxRecDepth 100000

theorem disk_Crash.ok (k : Nat) (l0_0 : List ByteArray) (l0_1 : List S71) (a1 : Int) (a2 : Int) (v0_0 : Value) (v0_1 : Value) (r1 : List ByteArray) (r2 : List S71) (r3 : Int) (h : disk_Crash.f k l0_0 l0_1 a1 a2 = some (r1, r2, r3)) :
    VCalls Tryz.prog 40 [.agg #[v0_0, v0_1], .int .u64 a1, iv a2] [.row v0_0 1 (l0_0.map enc_str), .row v0_1 2 (l0_1.map enc71)] (fun v G own => ∃ w0 w1 : Value, v = .tuple #[.agg #[w0, w1], iv r3] ∧ G = [] ∧ own = [(w0, 9, 1, r1.map enc_str), (w1, 72, 2, r2.map enc71)]) := by
  refine VCalls.introU (fun T => T = 5) Tryz.func40 rfl (len rfl) fun E hC hW hD hU => ?_
  unfold disk_Crash.f at h
  refine sr <| sG (o_box rfl (.agg (.f 0 rfl (.f 1 rfl .nil)))) fun g7833 => sG (o_alloc Z25 ZL25) fun g7834 => vs rfl <| ds <| sr <| va (op_load 1 2 rfl rfl TI25 rfl (fun h => absurd h (by decide))) <| ?_
  replace h := bd h
  obtain ⟨t7846, hA7847, h⟩ := h
  refine sC (o_call0 FO64 (disk_Right.ok k l0_0 l0_1 v0_0 v0_1 t7846 hA7847) rfl rfl (ltn rfl) (All_of (.cons (mG 0 rfl) (.cons (mG 1 rfl) .nil)))) <| ?_
  rintro _ _ _ ⟨rfl, rfl, rfl⟩
  replace h := iC h
  rcases h with ⟨c7848, h⟩ | ⟨c7848, h⟩
  · obtain rfl := c7848
    refine va (op_not rfl rfl) <| dt <| cf <| sk <| sr <| va (op_fieldAddr FI25_0 rfl (add_at _ _ _)) <| va (op_load 1 1 rfl rfl TI22 rfl (by decide)) <| ?_
    replace h := bd h
    obtain ⟨r7849, hA7850, h⟩ := h
    refine sC (o_call_b0 FO65 (slices_Clone_string_string.ok l0_0 v0_0 r7849 hA7850) rfl rfl (ltn rfl) (All_of (.cons (.inl (mG 0 rfl)) .nil)) (by rintro _ _ _ ⟨_, rfl, rfl, rfl⟩; rfl)) <| ?_
    rintro v7852 _ _ ⟨_, rfl, rfl, rfl⟩
    refine vs rfl <| nx <| vs rfl <| dt <| VC.join3 (fun (v8256 : Value) (l8257 : List ByteArray) (i8258 : Int) => ⟨77, [(2, iv a2), (3, pt g7833 0), (6, pt g7834 0), (7, iv 0), (8, v8256), (9, iv i8258)], [.row v0_0 1 (l0_0.map enc_str), .row v0_1 2 (l0_1.map enc71)], [(g7834, 25, [sn, sn]), (g7833, 25, [v0_0, v0_1])], [(v8256, 9, 1, l8257.map enc_str)]⟩) (fun (v8256 : Value) (l8257 : List ByteArray) (i8258 : Int) => disk_Crash.j2 k a2 l0_1 l8257 i8258 = some (r1, r2, r3)) ?_ ?_
    · refine sr <| va (op_fieldAddr FI25_1 rfl (add_at _ _ _)) <| va (op_load 1 1 rfl rfl TI23 rfl (by decide)) <| va (op_len (m := l0_1.length) 1 lenm Tryz.underlying23 rfl rfl) <| vm rfl <| dt <| VC.block <|
       VC.loop4 (fun (v8193 : Value) (l8194 : List ByteArray) (i8195 : Int) (i8196 : Int) => ⟨77, [(1, .int .u64 a1), (2, iv a2), (3, pt g7833 0), (6, pt g7834 0), (7, iv 0), (8, v8193), (9, iv i8195), (22, v0_1), (23, iv (l0_1.length : Int)), (24, iv i8196)], [.row v0_1 2 (l0_1.map enc71), .row v0_0 1 (l0_0.map enc_str)], [(g7834, 25, [sn, sn]), (g7833, 25, [v0_0, v0_1])], [(v8193, 9, 1, l8194.map enc_str)]⟩) (fun (ml3 : Nat) (v8193 : Value) (l8194 : List ByteArray) (i8195 : Int) (i8196 : Int) => disk_Crash.l3 k a1 a2 l0_1 ml3 l8194 i8195 i8196 = some (r1, r2, r3)) k v7852 r7849 (-1) 0 [0, 1] [0] h ⟨rfl, ⟨rfl, rfl, rfl, rfl, rfl, rfl, rfl, rfl, rfl, rfl, trivial⟩, ⟨⟨1, rfl⟩, ⟨0, rfl⟩, trivial⟩, rfl, by decide, rfl, by decide⟩ (by intros; simp [disk_Crash.l3]) <|
       ?_
      clear h
      intro ml3 ihl3 v8193 l8194 i8195 i8196 h
      simp only [disk_Crash.l3] at h
      refine sr <| VL.letter (decide (i8196 < (l0_1.length : Int))) fun b8226 hb8226 => va (op_cmp rfl rfl (congrArg some hb8226)) <| ds <| ?_
      replace h := iC h
      rcases h with ⟨c8228, h⟩ | ⟨c8228, h⟩
      · cases lT c8228 hb8226
        refine ct <| sk <| sq <| VC.block <| sr <| vm rfl <| ?_
        replace h := iN h
        obtain ⟨c8242, h⟩ := h
        replace h := bd h
        obtain ⟨x8243, hx8243, h⟩ := h
        refine VL.open (m := l0_1.length) 0 lenm rfl (pos_get hx8243) <| ?_
        rintro ad8244 n8245 rfl
        refine va (op_indexAddr Tryz.underlying23 TI72 rfl rfl c8242 (lt_get c8242 hx8243) rfl) <| va (op_load_row (sz := 2) (o := 0) 0 i8196.toNat 2 rfl rfl (get_map hx8243) TI72 rfl (fun h => absurd h (by decide))) <| sG (o_alloc Z72 ZL72) fun g8246 => vs rfl <|
         s1 (o_store 0 2 rfl rfl rfl TI72 (.agg (.of rfl)) rfl (len rfl)) <| nx <| vm rfl <| vm rfl <| va (op_shr rfl rfl c8242 rfl) <| va (op_bits rfl rfl rfl) <|
         VL.letter (((Go.bits .and .u64 (a1.fdiv (2 ^ min i8196.toNat IntKind.u64.bits)) 1) == 1)) fun b8247 hb8247 => va (op_cmp rfl rfl (congrArg some hb8247)) <| dt <| ?_
        replace h := iC h
        rcases h with ⟨c8248, h⟩ | ⟨c8248, h⟩
        · obtain rfl : b8247 = true := hb8247.symm.trans (beq_iff_eq.2 c8248)
          refine ct <| rg <| vm rfl <| va (op_fieldAddr FI72_0 rfl (add_at _ _ _)) <| va (op_load 0 1 rfl rfl TI3 rfl (by decide)) <| va (op_fieldAddr FI72_1 rfl (add_at _ _ _)) <| va (op_load 0 1 rfl rfl TI9 rfl (by decide)) <| ?_
          replace h := iN h
          obtain ⟨c8249, h⟩ := h
          replace h := bd h
          obtain ⟨x8250, hx8250, h⟩ := h
          refine VL.openR (m := l8194.length) 0 lenm rfl (pos_get hx8250) <| ?_
          rintro g8251 n8252 rfl
          refine va (op_indexAddr Tryz.underlying22 TI9 rfl rfl c8249 (lt_get c8249 hx8250) (add_zero_at _ _)) <| s1 (o_store_own (sz := 1) (o := 0) (es3 := List.map enc_str (l8194.set x8243.f0.toNat x8243.f1)) 0 x8243.f0.toNat 1 lenm (setm rfl) rfl rfl rfl (get_map hx8250) TI9 (.c rfl) rfl (len rfl)) <|
           dn <| VN.block <| tr <| va (op_ari64 rfl rfl rfl) <| vm rfl <| dn <| VN.again [1, 2] [0] (ihl3 (.slice (some ⟨g8251, 0, none⟩) l8194.length n8252) (l8194.set x8243.f0.toNat x8243.f1) i8195 (wrap64 (i8196 + 1)) h)
        obtain rfl : b8247 = false := hb8247.symm.trans (beq_eq_false_iff_ne.2 c8248)
        refine cf <| rg <| vm rfl <| vs rfl <| dn <| VN.block <| tr <| va (op_ari64 rfl rfl rfl) <| vm rfl <| dn <| VN.again [1, 2] [0] (ihl3 v8193 l8194 i8196 (wrap64 (i8196 + 1)) h)
      cases lF c8228 hb8226
      refine cf <| VC.exit <| VX.then <| VX.then <| VX.hit <| VN.meet3 v8193 l8194 i8195 [0, 1] [0] h
    clear h
    intro v8256 l8257 i8258 h
    unfold disk_Crash.j2 at h
    refine sq <| sr <| vm rfl <| VL.letter (decide (i8258 ≥ 0)) fun b8294 hb8294 => va (op_cmp rfl rfl (congrArg some hb8294)) <| vm rfl <| ?_
    replace h := iC h
    rcases h with ⟨c8295, h⟩ | ⟨c8295, h⟩
    · cases lT c8295 hb8294
      refine vm rfl <| VL.letter (decide (a2 ≥ 1)) fun b8296 hb8296 => va (op_cmp rfl rfl (congrArg some hb8296)) <| va (op_pick rfl rfl) <| vm rfl <| ?_
      replace h := iC h
      rcases h with ⟨c8297, h⟩ | ⟨c8297, h⟩
      · cases lT c8297 hb8296
        refine vm rfl <| VL.letter (decide (a2 < 64)) fun b8298 hb8298 => va (op_cmp rfl rfl (congrArg some hb8298)) <| va (op_pick rfl rfl) <| dt <| ?_
        replace h := iC h
        rcases h with ⟨c8299, h⟩ | ⟨c8299, h⟩
        · cases lT c8299 hb8298
          refine ct <| sr <| va (op_fieldAddr FI25_1 rfl (add_at _ _ _)) <| va (op_load 1 1 rfl rfl TI23 rfl (by decide)) <| vm rfl <| ?_
          replace h := iN h
          obtain ⟨c8300, h⟩ := h
          replace h := bd h
          obtain ⟨x8301, hx8301, h⟩ := h
          refine VL.open (m := l0_1.length) 1 lenm rfl (pos_get hx8301) <| ?_
          rintro ad8302 n8303 rfl
          refine va (op_indexAddr Tryz.underlying23 TI72 rfl rfl c8300 (lt_get c8300 hx8301) rfl) <| va (op_load_row (sz := 2) (o := 0) 1 i8258.toNat 2 rfl rfl (get_map hx8301) TI72 rfl (fun h => absurd h (by decide))) <|
           sG (o_alloc Z72 ZL72) fun g8304 => s1 (o_store 0 2 rfl rfl rfl TI72 (.agg (.of rfl)) rfl (len rfl)) <| nx <| vm rfl <| va (op_fieldAddr FI72_0 rfl (add_at _ _ _)) <| va (op_load 0 1 rfl rfl TI3 rfl (by decide)) <| ?_
          replace h := iN h
          obtain ⟨c8305, h⟩ := h
          replace h := bd h
          obtain ⟨x8306, hx8306, h⟩ := h
          refine VL.openR (m := l8257.length) 0 lenm rfl (pos_get hx8306) <| ?_
          rintro g8307 n8308 rfl
          refine va (op_indexAddr Tryz.underlying22 TI9 rfl rfl c8305 (lt_get c8305 hx8306) (add_zero_at _ _)) <| va (op_load_own (sz := 1) (o := 0) 0 x8301.f0.toNat 1 rfl rfl (get_map hx8306) TI9 rfl (by decide)) <|
           o_strBytesB Tryz.underlying9 Tryz.underlying68 Tryz.underlying5 (by rw [hU]) rfl (ltn rfl) rfl fun g8309 n8310 z8311 => vs rfl <| nx <| vm rfl <| va (op_fieldAddr FI72_1 rfl (add_at _ _ _)) <| va (op_load 1 1 rfl rfl TI9 rfl (by decide)) <| vm rfl <| ?_
          replace h := iN h
          obtain ⟨c8312, h⟩ := h
          replace h := iN h
          obtain ⟨c8313, h⟩ := h
          refine va (op_sliceS 0 a2.toNat Tryz.underlying9 rfl ⟨rfl, ⟨_, _, rfl, c8312, rfl⟩, Nat.zero_le _, tN (a := a2) (b := (x8301.f1.size : Int)) rfl rfl c8313⟩ rfl) <| ?_
          replace h := iN h
          obtain ⟨c8314, h⟩ := h
          refine s1 (o_copyS 0 Tryz.underlying68 TI5 rfl rfl rfl c8314 rfl) <| dr <| vm rfl <| va (op_fieldAddr FI72_0 rfl (add_at _ _ _)) <| va (op_load 1 1 rfl rfl TI3 rfl (by decide)) <| vm rfl <| ?_
          replace h := iN h
          obtain ⟨c8315, h⟩ := h
          refine va (op_bytesStrB 0 Tryz.underlying68 Tryz.underlying9 Tryz.underlying5 rfl rfl c8315) <| ?_
          replace h := bd h
          obtain ⟨x8316, hx8316, h⟩ := h
          refine va (op_indexAddr Tryz.underlying22 TI9 rfl rfl c8305 (lt_get c8305 hx8316) (add_zero_at _ _)) <|
           s1 (o_store_own (sz := 1) (o := 0) (es3 := List.map enc_str (l8257.set x8301.f0.toNat (strOfNums ((byI (x8301.f1.extract 0 a2.toNat)).take (min (x8301.f1.extract 0 a2.toNat).size x8306.size) ++ (byI x8306).drop (min (x8301.f1.extract 0 a2.toNat).size x8306.size))))) 0 x8301.f0.toNat 1 lenm (setm rfl) rfl rfl rfl (get_map hx8316) TI9 (.c rfl) rfl (len rfl)) <|
           nx <| vm rfl <| va (op_build (vals := [(0, (.slice (some ⟨g8307, 0, none⟩) l8257.length n8308))]) (vcs := [(0, [(.slice (some ⟨g8307, 0, none⟩) l8257.length n8308)])]) (cells := [(.slice (some ⟨g8307, 0, none⟩) l8257.length n8308), sn]) SI25 rfl (.cons ⟨rfl, (.r 0 rfl)⟩ .nil) (by kernel_rfl)) <|
           s1 (o_store 2 2 rfl rfl rfl TI25 (.agg (.r 0 rfl (.c rfl .nil))) rfl (len rfl)) <| vs rfl <| dt <| VC.ret <| ?_
          simp only [Option.some.injEq, Prod.mk.injEq] at h
          obtain ⟨rfl, rfl, rfl⟩ := h
          exact VR.nilRow' 72 2 <| rf [.cell 6 25, .tmp 7] [1, 0] (.cell 2 rfl rfl TI25 (fun h => absurd h (by decide)) (.tmp rfl .nil)) ⟨(.slice (some ⟨g8307, 0, none⟩) l8257.length n8308), sn, rfl, rfl, rfl⟩
        cases lF c8299 hb8298
        refine cf <| sk <| sr <| vm rfl <| va (op_build (vals := [(0, v8256)]) (vcs := [(0, [v8256])]) (cells := [v8256, sn]) SI25 rfl (.cons ⟨rfl, (.r 0 rfl)⟩ .nil) (by kernel_rfl)) <| s1 (o_store 0 2 rfl rfl rfl TI25 (.agg (.r 0 rfl (.c rfl .nil))) rfl (len rfl)) <| vs rfl <| dt <| VC.ret <|
         ?_
        simp only [Option.some.injEq, Prod.mk.injEq] at h
        obtain ⟨rfl, rfl, rfl⟩ := h
        exact VR.nilRow' 72 2 <| rf [.cell 6 25, .tmp 7] [1, 0] (.cell 0 rfl rfl TI25 (fun h => absurd h (by decide)) (.tmp rfl .nil)) ⟨v8256, sn, rfl, rfl, rfl⟩
      cases lF c8297 hb8296
      refine un rfl <| un rfl <| va (op_pick rfl rfl) <| dt <| cf <| sk <| sr <| vm rfl <| va (op_build (vals := [(0, v8256)]) (vcs := [(0, [v8256])]) (cells := [v8256, sn]) SI25 rfl (.cons ⟨rfl, (.r 0 rfl)⟩ .nil) (by kernel_rfl)) <|
       s1 (o_store 0 2 rfl rfl rfl TI25 (.agg (.r 0 rfl (.c rfl .nil))) rfl (len rfl)) <| vs rfl <| dt <| VC.ret <| ?_
      simp only [Option.some.injEq, Prod.mk.injEq] at h
      obtain ⟨rfl, rfl, rfl⟩ := h
      exact VR.nilRow' 72 2 <| rf [.cell 6 25, .tmp 7] [1, 0] (.cell 0 rfl rfl TI25 (fun h => absurd h (by decide)) (.tmp rfl .nil)) ⟨v8256, sn, rfl, rfl, rfl⟩
    cases lF c8295 hb8294
    refine un rfl <| un rfl <| va (op_pick rfl rfl) <| vm rfl <| un rfl <| un rfl <| va (op_pick rfl rfl) <| dt <| cf <| sk <| sr <| vm rfl <| va (op_build (vals := [(0, v8256)]) (vcs := [(0, [v8256])]) (cells := [v8256, sn]) SI25 rfl (.cons ⟨rfl, (.r 0 rfl)⟩ .nil) (by kernel_rfl)) <|
     s1 (o_store 0 2 rfl rfl rfl TI25 (.agg (.r 0 rfl (.c rfl .nil))) rfl (len rfl)) <| vs rfl <| dt <| VC.ret <| ?_
    simp only [Option.some.injEq, Prod.mk.injEq] at h
    obtain ⟨rfl, rfl, rfl⟩ := h
    exact VR.nilRow' 72 2 <| rf [.cell 6 25, .tmp 7] [1, 0] (.cell 0 rfl rfl TI25 (fun h => absurd h (by decide)) (.tmp rfl .nil)) ⟨v8256, sn, rfl, rfl, rfl⟩
  obtain rfl := Bool.eq_false_iff.2 c7848
  refine va (op_not rfl rfl) <| dt <| ct <| sr <| va (op_build (vals := []) (vcs := []) (cells := [sn, sn]) SI25 rfl .nil (by kernel_rfl)) <| s1 (o_store 0 2 rfl rfl rfl TI25 (.agg (.of rfl)) rfl (len rfl)) <| vs rfl <| dt <| VC.ret <| VR.then <| ?_
  simp only [Option.some.injEq, Prod.mk.injEq] at h
  obtain ⟨rfl, rfl, rfl⟩ := h
  exact VR.nilRow' 9 1 <| VR.nilRow' 72 2 <| rf [.cell 6 25, .tmp 7] [1, 0] (.cell 0 rfl rfl TI25 (fun h => absurd h (by decide)) (.tmp rfl .nil)) ⟨sn, sn, rfl, rfl, rfl⟩

theorem disk_Flush.ok (k : Nat) (l0_0 : List ByteArray) (l0_1 : List S71) (v0_0 : Value) (v0_1 : Value) (r1 : List ByteArray) (r2 : List S71) (r3 : Int) (h : disk_Flush.f k l0_0 l0_1 = some (r1, r2, r3)) :
    VCalls Tryz.prog 52 [.agg #[v0_0, v0_1]] [.row v0_0 1 (l0_0.map enc_str), .row v0_1 2 (l0_1.map enc71)] (fun v G own => ∃ w0 w1 : Value, v = .tuple #[.agg #[w0, w1], iv r3] ∧ G = [] ∧ own = [(w0, 9, 1, r1.map enc_str), (w1, 72, 2, r2.map enc71)]) := by
  refine VCalls.intro Tryz.func52 rfl (len rfl) fun E hC hW hD hU => ?_
  unfold disk_Flush.f at h
  refine sr <| sG (o_box rfl (.agg (.f 0 rfl (.f 1 rfl .nil)))) fun g7829 => sG (o_alloc Z25 ZL25) fun g7830 => vs rfl <| nx <| va (op_load 1 2 rfl rfl TI25 rfl (fun h => absurd h (by decide))) <| ?_
  replace h := bd h
  obtain ⟨⟨r8325, r8326, t8327⟩, hA8328, h⟩ := h
  dsimp only at h
  refine sC (o_call0 FO40 (disk_Crash.ok k l0_0 l0_1 18446744073709551615 0 v0_0 v0_1 r8325 r8326 t8327 hA8328) rfl rfl (ltn rfl) (All_of (.cons (mG 0 rfl) (.cons (mG 1 rfl) .nil)))) <| ?_
  rintro _ _ _ ⟨v8330, v8332, rfl, rfl, rfl⟩
  refine va (op_extract rfl rfl) <| va (op_extract rfl rfl) <| s1 (o_store 0 2 rfl rfl rfl TI25 (.agg (.r 0 rfl (.r 1 rfl .nil))) rfl (len rfl)) <| vs rfl <| dt <| VC.ret <| ?_
  simp only [Option.some.injEq, Prod.mk.injEq] at h
  obtain ⟨rfl, rfl, rfl⟩ := h
  exact rf [.cell 2 25, .tmp 3] [0, 1] (.cell 0 rfl rfl TI25 (fun h => absurd h (by decide)) (.tmp rfl .nil)) ⟨v8330, v8332, rfl, rfl, rfl⟩

theorem journal_head_sector.ok (a0_0 : List Int)  (r1 : ByteArray) (h : journal_head_sector.f a0_0 = some r1) :
    VCalls Tryz.prog 56 [.agg (ints .u8 a0_0).toArray] [] (fun v G own => v = .string r1 ∧ G = [] ∧ own = []) := by
  refine VCalls.intro Tryz.func56 rfl (len rfl) fun E hC hW hD hU => ?_
  unfold journal_head_sector.f at h
  refine sr <| sG (o_box rfl cells_ints) fun g8344 => vs rfl <| dt <| ?_
  replace h := iN h
  obtain ⟨c8345, h⟩ := h
  replace h := iN h
  obtain ⟨c8350, h⟩ := h
  refine VC.freeze' 0 rfl <| VC.join0 (⟨8, [(2, .string ((strOfNums a0_0) ++ (strOfNums a0_0)))], [], [], []⟩) (True) ?_ ?_
  · refine dw ⟨0, [], [.at_ ⟨g8344, 0, none⟩ (ints .u8 a0_0)], [], []⟩ 6 <| VA.all [0, 2] (by kernel_rfl) (by simp) <|
     VAll.consG (listed' := LB 6 1) rfl (o_sliceA (es := List.map enc_intu8 a0_0) 0 Tryz.underlying82 TI5 rfl rfl c8345 rfl (by decide)) rfl (by kernel_rfl) (fun _ => ⟨⟨⟨1, rfl⟩, trivial⟩, trivial, trivial⟩) ?_ ?_
    · intro v8347
      exact VA.more ⟨0, [], [.at_ ⟨g8344, 0, none⟩ (ints .u8 a0_0), .row v8347 1 (a0_0.map enc_intu8)], [], []⟩ ⟨⟨⟨0, rfl⟩, trivial⟩, trivial, trivial⟩ <| av 1 3 rfl (op_bytesStr (xs := a0_0) 1 rfl rfl Tryz.underlying68 Tryz.underlying9 Tryz.underlying5 rfl rfl) <|
       aG 2 7 rfl (o_sliceA (es := List.map enc_intu8 a0_0) 1 Tryz.underlying82 TI5 rfl rfl c8345 rfl (by decide)) fun v8349 => VA.more ⟨0, [], [.at_ ⟨g8344, 0, none⟩ (ints .u8 a0_0), .row v8347 1 (a0_0.map enc_intu8), .row v8349 1 (a0_0.map enc_intu8)], [], []⟩ ⟨⟨⟨0, rfl⟩, ⟨1, rfl⟩, trivial⟩, trivial, trivial⟩ <|
       av 3 15 rfl (op_bytesStr (xs := a0_0) 2 rfl rfl Tryz.underlying68 Tryz.underlying9 Tryz.underlying5 rfl rfl) <| av 4 31 rfl (op_adds rfl rfl rfl c8350) <| av 5 63 rfl (ag rfl) <| ad <| VN.meet0 [] [] trivial
    refine VAll.consG (listed' := LB 6 4) rfl (o_sliceA (es := List.map enc_intu8 a0_0) 0 Tryz.underlying82 TI5 rfl rfl c8345 rfl (by decide)) rfl (by kernel_rfl) (fun _ => ⟨⟨⟨1, rfl⟩, trivial⟩, trivial, trivial⟩) ?_ VAll.nil
    intro v8349
    exact VA.more ⟨0, [], [.at_ ⟨g8344, 0, none⟩ (ints .u8 a0_0), .row v8349 1 (a0_0.map enc_intu8)], [], []⟩ ⟨⟨⟨0, rfl⟩, trivial⟩, trivial, trivial⟩ <| av 3 12 rfl (op_bytesStr (xs := a0_0) 1 rfl rfl Tryz.underlying68 Tryz.underlying9 Tryz.underlying5 rfl rfl) <|
     aG 0 13 rfl (o_sliceA (es := List.map enc_intu8 a0_0) 1 Tryz.underlying82 TI5 rfl rfl c8345 rfl (by decide)) fun v8347 => VA.more ⟨0, [], [.at_ ⟨g8344, 0, none⟩ (ints .u8 a0_0), .row v8349 1 (a0_0.map enc_intu8), .row v8347 1 (a0_0.map enc_intu8)], [], []⟩ ⟨⟨⟨0, rfl⟩, ⟨1, rfl⟩, trivial⟩, trivial, trivial⟩ <|
     av 1 15 rfl (op_bytesStr (xs := a0_0) 2 rfl rfl Tryz.underlying68 Tryz.underlying9 Tryz.underlying5 rfl rfl) <| av 4 31 rfl (op_adds rfl rfl rfl c8350) <| av 5 63 rfl (ag rfl) <| ad <| VN.meet0 [] [] trivial
  intro _
  refine VC.ret <| ?_
  obtain rfl := Option.some.inj h
  exact rq 2 rfl ⟨rfl, rfl, rfl⟩

theorem journal_plan_second.ok (k : Nat) (a0_0 : Int) (a0_1 : Int) (a0_2 : ByteArray) (l1_0 : List ByteArray) (l1_1 : List S71) (a1_2 : Int) (a1_3 : Int) (a1_4 : Int) (l1_5 : List ByteArray) (l1_6 : List ByteArray) (v1_0 : Value) (v1_1 : Value) (v1_5 : Value) (v1_6 : Value) (r1 : List ByteArray) (r2 : List S71) (h : journal_plan_second.f k a0_0 a0_1 a0_2 l1_0 l1_1 a1_2 a1_3 a1_4 l1_5 l1_6 = some (r1, r2)) :
    VCalls Tryz.prog 39 [.agg #[iv a0_0, iv a0_1, .string a0_2], .agg #[v1_0, v1_1, iv a1_2, iv a1_3, iv a1_4, v1_5, v1_6]] [.row v1_0 1 (l1_0.map enc_str), .row v1_1 2 (l1_1.map enc71), .row v1_5 1 (l1_5.map enc_str), .row v1_6 1 (l1_6.map enc_str)] (fun v G own => ∃ w0 w1 : Value, v = .agg #[w0, w1] ∧ G = [.row w0 1 (r1.map enc_str), .row w1 2 (r2.map enc71)] ∧ own = []) := by
  refine VCalls.intro Tryz.func39 rfl (len rfl) fun E hC hW hD hU => ?_
  unfold journal_plan_second.f at h
  refine sr <| sG (o_box rfl (.agg (.of rfl))) fun g8365 => sG (o_box rfl (.agg (.f 0 rfl (.f 1 rfl (.c rfl (.c rfl (.c rfl (.f 2 rfl (.f 3 rfl .nil))))))))) fun g8366 => sG (o_alloc Z25 ZL25) fun g8367 => nx <| va (op_load 2 3 rfl rfl TI53 rfl (fun h => absurd h (by decide))) <|
   va (op_load 1 7 rfl rfl TI27 rfl (fun h => absurd h (by decide))) <| ?_
  replace h := bd h
  obtain ⟨⟨r8368, r8369⟩, hA8370, h⟩ := h
  dsimp only at h
  refine sC (o_call0 FO38 (journal_plan_first.ok k a0_0 a0_1 a0_2 l1_0 l1_1 a1_2 a1_3 a1_4 l1_5 l1_6 v1_0 v1_1 v1_5 v1_6 r8368 r8369 hA8370) rfl rfl (ltn rfl) (All_of (.cons (mG 0 rfl) (.cons (mG 1 rfl) (.cons (mG 2 rfl) (.cons (mG 3 rfl) .nil)))))) <| ?_
  rintro _ _ _ ⟨v8372, v8374, rfl, rfl, rfl⟩
  replace h := bd h
  obtain ⟨⟨r8375, r8376, t8377⟩, hA8378, h⟩ := h
  dsimp only at h
  refine sC (o_call0 FO52 (disk_Flush.ok k r8368 r8369 v8372 v8374 r8375 r8376 t8377 hA8378) rfl rfl (ltn rfl) (All_of (.cons (mG 0 rfl) (.cons (mG 1 rfl) .nil)))) <| ?_
  rintro _ _ _ ⟨v8380, v8382, rfl, rfl, rfl⟩
  refine vm rfl <| va (op_extract rfl rfl) <| va (op_extract rfl rfl) <| sG (o_alloc Z25 ZL25) fun g8383 => s1 (o_store 0 2 rfl rfl rfl TI25 (.agg (.r 0 rfl (.r 1 rfl .nil))) rfl (len rfl)) <| vs rfl <| nx <| va (op_fieldAddr FI27_1 rfl (add_at _ _ _)) <|
   va (op_load 2 1 rfl rfl TI3 rfl (by decide)) <| va (op_ari64 rfl rfl rfl) <| vs rfl <| dt <| ?_
  replace h := bd h
  obtain ⟨r8384, hA8385, h⟩ := h
  replace h := bd h
  obtain ⟨t8386, hA8387, h⟩ := h
  replace h := bd h
  obtain ⟨⟨r8388, r8389, t8390⟩, hA8391, h⟩ := h
  dsimp only at h
  refine VC.freezeRow' 0 rfl <| VC.freezeRow' 0 rfl <|
   VC.join2 (fun (v8393 : Value) (v8395 : Value) => ⟨37, [(4, pt g8367 0), (5, pt g8383 0)], [.row v8393 1 (r8388.map enc_str), .row v8395 2 (r8389.map enc71)], [(g8383, 25, [v8393, v8395]), (g8367, 25, [sn, sn])], []⟩) (fun (v8393 : Value) (v8395 : Value) => True) ?_ ?_
  · refine VC.drawB ⟨0, [], [], [(g8365, 53, [iv a0_0, iv a0_1, .string a0_2])], []⟩ [18] ⟨0, [], [], [(g8383, 25, [v8380, v8382])], []⟩ (by kernel_rfl) rfl (by kernel_rfl) (n := 19) (listed := LB 19 0) <|
     VB.vb (i := 0) (listed' := LB 19 1) rfl (op_load 0 2 rfl rfl TI25 rfl (fun h => absurd h (by decide))) rfl (by kernel_rfl) (by kernel_rfl) (by kernel_rfl) (by kernel_rfl) (by kernel_rfl) (by kernel_rfl) (PartP.on ⟨trivial, ⟨⟨3, rfl⟩, trivial⟩, trivial⟩ ⟨trivial, ⟨⟨0, rfl⟩, trivial⟩, trivial⟩) (fun _ _ _ h => h) <|
     bv 1 3 rfl (mv rfl) <| bv 2 7 rfl (op_rem rfl rfl (by decide) rfl) <| bv 3 15 rfl (mv rfl) <| bv 4 31 rfl (op_fieldAddr FI53_0 rfl (add_at _ _ _)) <| bv 5 63 rfl (op_load 0 1 rfl rfl TI3 rfl (by decide)) <| bv 6 127 rfl (op_fieldAddr FI53_1 rfl (add_at _ _ _)) <|
     bv 7 255 rfl (op_load 0 1 rfl rfl TI3 rfl (by decide)) <| bv 8 511 rfl (op_fieldAddr FI53_2 rfl (add_at _ _ _)) <| bv 9 1023 rfl (op_load 0 1 rfl rfl TI9 rfl (by decide)) <| bv 10 2047 rfl (op_lens Tryz.underlying9 rfl) <| bv 11 4095 rfl (op_ari64 rfl rfl rfl) <|
     VB.oneC (i := 12) (listed' := LB 19 8191) (by kernel_rfl) rfl (o_call0 FO55 (journal_headOf.ok k (wrap64 (a1_2 + 1)) a0_0 (wrap64 (a0_1 + (a0_2.size : Int))) r8384 hA8385) rfl rfl (ltn rfl) (All_of .nil)) rfl (by kernel_rfl) <| ?_
    rintro _ _ _ ⟨rfl, rfl, rfl⟩
    refine ⟨(PartP.on ⟨trivial, ⟨⟨3, rfl⟩, trivial⟩, trivial⟩ ⟨trivial, ⟨⟨0, rfl⟩, trivial⟩, trivial⟩), ?_⟩
    refine VB.oneC (i := 13) (listed' := LB 19 16383) (by kernel_rfl) rfl (o_call0 FO56 (journal_head_sector.ok r8384 t8386 hA8387) rfl rfl (ltn rfl) (All_of .nil)) rfl (by kernel_rfl) <| ?_
    rintro _ _ _ ⟨rfl, rfl, rfl⟩
    refine ⟨(PartP.on ⟨trivial, ⟨⟨3, rfl⟩, trivial⟩, trivial⟩ ⟨trivial, ⟨⟨0, rfl⟩, trivial⟩, trivial⟩), ?_⟩
    refine VB.oneC (i := 14) (listed' := LB 19 32767) (by kernel_rfl) rfl (o_call0 FO54 (disk_Put.ok k r8375 r8376 ((wrap64 (a1_2 + 1)).tmod 2) t8386 v8380 v8382 r8388 r8389 t8390 hA8391) rfl rfl (ltn rfl) (All_of (.cons (mG 1 rfl) (.cons (mG 0 rfl) .nil)))) rfl (by kernel_rfl) <| ?_
    rintro _ _ _ ⟨v8393, v8395, rfl, rfl, rfl⟩
    refine ⟨(PartP.on ⟨trivial, ⟨⟨3, rfl⟩, trivial⟩, trivial⟩ ⟨trivial, ⟨⟨0, rfl⟩, trivial⟩, trivial⟩), ?_⟩
    exact VB.more ⟨0, [], [.row v8393 1 (r8388.map enc_str), .row v8395 2 (r8389.map enc71)], [(g8365, 53, [iv a0_0, iv a0_1, .string a0_2])], []⟩ ⟨trivial, ⟨⟨0, rfl⟩, trivial⟩, trivial⟩ <| bv 15 65535 rfl (mv rfl) <| bv 16 131071 rfl (op_extract rfl rfl) <|
     bv 17 262143 rfl (op_extract rfl rfl) <| VB.one1 (i := 18) (listed' := LB 19 524287) (by kernel_rfl) rfl (o_store 0 2 rfl rfl rfl TI25 (.agg (.f 0 rfl (.f 1 rfl .nil))) rfl (len rfl)) rfl (by kernel_rfl) (PartP.off (by kernel_rfl) ⟨⟨⟨0, rfl⟩, ⟨1, rfl⟩, trivial⟩, ⟨⟨3, rfl⟩, trivial⟩, trivial⟩) <|
     VB.done (by kernel_rfl) <| VN.meet2 v8393 v8395 [0, 1] [] trivial
  intro v8393 v8395 _
  refine sr <| va (op_load 0 2 rfl rfl TI25 rfl (fun h => absurd h (by decide))) <| s1 (o_store 1 2 rfl rfl rfl TI25 (.agg (.f 0 rfl (.f 1 rfl .nil))) rfl (len rfl)) <| dt <| VC.ret <| ?_
  simp only [Option.some.injEq, Prod.mk.injEq] at h
  obtain ⟨rfl, rfl⟩ := h
  exact rf [.cell 4 25] [] (.cell 1 rfl rfl TI25 (fun h => absurd h (by decide)) .nil) ⟨v8393, v8395, rfl, rfl, rfl⟩

theorem journal_plan_sealed.ok (k : Nat) (a0_0 : Int) (a0_1 : Int) (a0_2 : ByteArray) (l1_0 : List ByteArray) (l1_1 : List S71) (a1_2 : Int) (a1_3 : Int) (a1_4 : Int) (l1_5 : List ByteArray) (l1_6 : List ByteArray) (v1_0 : Value) (v1_1 : Value) (v1_5 : Value) (v1_6 : Value) (r1 : List ByteArray) (r2 : List S71) (r3 : Int) (r4 : Int) (r5 : Int) (r6 : List ByteArray) (r7 : List ByteArray) (r8 : Int) (h : journal_plan_sealed.f k a0_0 a0_1 a0_2 l1_0 l1_1 a1_2 a1_3 a1_4 l1_5 l1_6 = some (r1, r2, r3, r4, r5, r6, r7, r8)) :
    VCalls Tryz.prog 28 [.agg #[iv a0_0, iv a0_1, .string a0_2], .agg #[v1_0, v1_1, iv a1_2, iv a1_3, iv a1_4, v1_5, v1_6]] [.row v1_0 1 (l1_0.map enc_str), .row v1_1 2 (l1_1.map enc71), .row v1_5 1 (l1_5.map enc_str), .row v1_6 1 (l1_6.map enc_str)] (fun v G own => ∃ w0 w1 w5 w6 : Value, v = .tuple #[.agg #[w0, w1, iv r3, iv r4, iv r5, w5, w6], iv r8] ∧ G = [.row w0 1 (r1.map enc_str), .row w1 2 (r2.map enc71)] ∧ own = [(w5, 9, 1, r6.map enc_str), (w6, 9, 1, r7.map enc_str)]) := by
  refine VCalls.intro Tryz.func28 rfl (len rfl) fun E hC hW hD hU => ?_
  unfold journal_plan_sealed.f at h
  refine sr <| sG (o_box rfl (.agg (.of rfl))) fun g8433 => sG (o_box rfl (.agg (.f 0 rfl (.f 1 rfl (.c rfl (.c rfl (.c rfl (.f 2 rfl (.f 3 rfl .nil))))))))) fun g8434 => sG (o_alloc Z27 ZL27) fun g8435 => vs rfl <| nx <| va (op_load 2 3 rfl rfl TI53 rfl (fun h => absurd h (by decide))) <|
   va (op_load 1 7 rfl rfl TI27 rfl (fun h => absurd h (by decide))) <| ?_
  replace h := bd h
  obtain ⟨⟨r8436, r8437⟩, hA8438, h⟩ := h
  dsimp only at h
  refine sC (o_call0 FO39 (journal_plan_second.ok k a0_0 a0_1 a0_2 l1_0 l1_1 a1_2 a1_3 a1_4 l1_5 l1_6 v1_0 v1_1 v1_5 v1_6 r8436 r8437 hA8438) rfl rfl (ltn rfl) (All_of (.cons (mG 0 rfl) (.cons (mG 1 rfl) (.cons (mG 2 rfl) (.cons (mG 3 rfl) .nil)))))) <| ?_
  rintro _ _ _ ⟨v8440, v8442, rfl, rfl, rfl⟩
  replace h := bd h
  obtain ⟨⟨r8443, r8444, t8445⟩, hA8446, h⟩ := h
  dsimp only at h
  refine sC (o_call0 FO52 (disk_Flush.ok k r8436 r8437 v8440 v8442 r8443 r8444 t8445 hA8446) rfl rfl (ltn rfl) (All_of (.cons (mG 0 rfl) (.cons (mG 1 rfl) .nil)))) <| ?_
  rintro _ _ _ ⟨v8448, v8450, rfl, rfl, rfl⟩
  refine vm rfl <| va (op_extract rfl rfl) <| va (op_extract rfl rfl) <| sG (o_alloc Z25 ZL25) fun g8451 => s1 (o_store 0 2 rfl rfl rfl TI25 (.agg (.r 0 rfl (.r 1 rfl .nil))) rfl (len rfl)) <| vs rfl <| nx <| va (op_load 0 2 rfl rfl TI25 rfl (fun h => absurd h (by decide))) <| VL.freezeRow' 0 rfl <|
   VL.freezeRow' 0 rfl <| ?_
  replace h := bd h
  obtain ⟨⟨r8452, r8453, t8454, t8455, t8456, r8457, r8458, t8459⟩, hA8460, h⟩ := h
  dsimp only at h
  refine sC (o_call0 FO46 (journal_Open.ok k r8443 r8444 v8448 v8450 r8452 r8453 t8454 t8455 t8456 r8457 r8458 t8459 hA8460) rfl rfl (ltn rfl) (All_of (.cons (mG 1 rfl) (.cons (mG 0 rfl) .nil)))) <| ?_
  rintro _ _ _ ⟨v8462, v8464, v8466, v8468, rfl, rfl, rfl⟩
  refine va (op_extract rfl rfl) <| va (op_extract rfl rfl) <| s1 (o_store 1 7 rfl rfl rfl TI27 (.agg (.f 0 rfl (.f 1 rfl (.c rfl (.c rfl (.c rfl (.r 0 rfl (.r 1 rfl .nil)))))))) rfl (len rfl)) <| vs rfl <| dt <| VC.ret <| ?_
  simp only [Option.some.injEq, Prod.mk.injEq] at h
  obtain ⟨rfl, rfl, rfl, rfl, rfl, rfl, rfl, rfl⟩ := h
  exact rf [.cell 4 27, .tmp 5] [0, 1] (.cell 1 rfl rfl TI27 (fun h => absurd h (by decide)) (.tmp rfl .nil)) ⟨v8462, v8464, v8466, v8468, rfl, rfl, rfl⟩

theorem journal_Commit.ok (k : Nat) (l0_0 : List ByteArray) (l0_1 : List S71) (a0_2 : Int) (a0_3 : Int) (a0_4 : Int) (l0_5 : List ByteArray) (l0_6 : List ByteArray) (v0_0 : Value) (v0_1 : Value) (v0_5 : Value) (v0_6 : Value) (r1 : List ByteArray) (r2 : List S71) (r3 : Int) (r4 : Int) (r5 : Int) (r6 : List ByteArray) (r7 : List ByteArray) (r8 : Int) (h : journal_Commit.f k l0_0 l0_1 a0_2 a0_3 a0_4 l0_5 l0_6 = some (r1, r2, r3, r4, r5, r6, r7, r8)) :
    VCalls Tryz.prog 7 [.agg #[v0_0, v0_1, iv a0_2, iv a0_3, iv a0_4, v0_5, v0_6]] [.row v0_0 1 (l0_0.map enc_str), .row v0_1 2 (l0_1.map enc71), .row v0_5 1 (l0_5.map enc_str), .row v0_6 1 (l0_6.map enc_str)] (fun v G own => ∃ w0 w1 w5 w6 : Value, v = .tuple #[.agg #[w0, w1, iv r3, iv r4, iv r5, w5, w6], iv r8] ∧ G = [.row w0 1 (r1.map enc_str), .row w1 2 (r2.map enc71)] ∧ own = [(w5, 9, 1, r6.map enc_str), (w6, 9, 1, r7.map enc_str)]) := by
  refine VCalls.intro Tryz.func7 rfl (len rfl) fun E hC hW hD hU => ?_
  unfold journal_Commit.f at h
  refine sr <| sG (o_box rfl (.agg (.f 0 rfl (.f 1 rfl (.c rfl (.c rfl (.c rfl (.f 2 rfl (.f 3 rfl .nil))))))))) fun g8490 => sG (o_alloc Z27 ZL27) fun g8491 => vs rfl <| ds <| VC.block <| sr <| va (op_load 1 7 rfl rfl TI27 rfl (fun h => absurd h (by decide))) <| ?_
  replace h := bd h
  obtain ⟨t8511, hA8512, h⟩ := h
  refine sC (o_call0 FO24 (journal_Right.ok k l0_0 l0_1 a0_2 a0_3 a0_4 l0_5 l0_6 v0_0 v0_1 v0_5 v0_6 t8511 hA8512) rfl rfl (ltn rfl) (All_of (.cons (mG 0 rfl) (.cons (mG 1 rfl) (.cons (mG 2 rfl) (.cons (mG 3 rfl) .nil)))))) <| ?_
  rintro _ _ _ ⟨rfl, rfl, rfl⟩
  replace h := iC h
  rcases h with ⟨c8513, h⟩ | ⟨c8513, h⟩
  · obtain rfl := c8513
    refine va (op_not rfl rfl) <| vs rfl <| dt <| cf <| sr <| va (op_fieldAddr FI27_1 rfl (add_at _ _ _)) <| va (op_load 1 1 rfl rfl TI3 rfl (by decide)) <| VL.letter ((a0_2 == 1099511627776)) fun b8514 hb8514 => va (op_cmp rfl rfl (congrArg some hb8514)) <| vs rfl <| dt <| ?_
    replace h := iC h
    rcases h with ⟨c8515, h⟩ | ⟨c8515, h⟩
    · obtain rfl : b8514 = true := hb8514.symm.trans (beq_iff_eq.2 c8515)
      refine ct <| sr <| va (op_build (vals := []) (vcs := []) (cells := [sn, sn, iv 0, iv 0, iv 0, sn, sn]) SI27 rfl .nil (by kernel_rfl)) <| s1 (o_store 0 7 rfl rfl rfl TI27 (.agg (.of rfl)) rfl (len rfl)) <| vs rfl <| dt <|
       VC.ret <| VR.block <| VR.then <| ?_
      simp only [Option.some.injEq, Prod.mk.injEq] at h
      obtain ⟨rfl, rfl, rfl, rfl, rfl, rfl, rfl, rfl⟩ := h
      exact VR.nilFact' 1 <| VR.nilFact' 2 <| VR.nilRow' 9 1 <| VR.nilRow' 9 1 <| rf [.cell 2 27, .tmp 3] [1, 0] (.cell 0 rfl rfl TI27 (fun h => absurd h (by decide)) (.tmp rfl .nil)) ⟨sn, sn, sn, sn, rfl, rfl, rfl⟩
    obtain rfl : b8514 = false := hb8514.symm.trans (beq_eq_false_iff_ne.2 c8515)
    refine cf <| VC.skip <| VN.block <| th <| ?_
    replace h := bd h
    obtain ⟨⟨t8520, t8521, t8522⟩, hA8523, h⟩ := h
    dsimp only at h
    replace h := bd h
    obtain ⟨⟨r8524, r8525, t8526, t8527, t8528, r8529, r8530, t8531⟩, hA8532, h⟩ := h
    dsimp only at h
    refine VC.join4 (fun (v8534 : Value) (v8536 : Value) (v8538 : Value) (v8540 : Value) => ⟨20, [(2, pt g8491 0), (3, iv t8531)], [.row v8534 1 (r8524.map enc_str), .row v8536 2 (r8525.map enc71)], [(g8491, 27, [v8534, v8536, iv t8526, iv t8527, iv t8528, v8538, v8540])], [(v8538, 9, 1, r8529.map enc_str), (v8540, 9, 1, r8530.map enc_str)]⟩) (fun (v8534 : Value) (v8536 : Value) (v8538 : Value) (v8540 : Value) => True) ?_ ?_
    · refine dw ⟨0, [], [], [(g8490, 27, [v0_0, v0_1, iv a0_2, iv a0_3, iv a0_4, v0_5, v0_6])], []⟩ 8 <| av 0 1 rfl (op_load 0 7 rfl rfl TI27 rfl (fun h => absurd h (by decide))) <| av 2 5 rfl (op_load 0 7 rfl rfl TI27 rfl (fun h => absurd h (by decide))) <|
       aC 1 7 rfl (o_call0 FO27 (journal_groups.ok k l0_0 l0_1 a0_2 a0_3 a0_4 l0_5 l0_6 v0_0 v0_1 v0_5 v0_6 t8520 t8521 t8522 hA8523) rfl rfl (ltn rfl) (All_of (.cons (mG 0 rfl) (.cons (mG 1 rfl) (.cons (mG 2 rfl) (.cons (mG 3 rfl) .nil)))))) <| ?_
      rintro _ _ _ ⟨rfl, rfl, rfl⟩
      refine ⟨⟨trivial, ⟨⟨1, rfl⟩, trivial⟩, trivial⟩, ?_⟩
      refine aC 3 15 rfl (o_call0 FO28 (journal_plan_sealed.ok k t8520 t8521 t8522 l0_0 l0_1 a0_2 a0_3 a0_4 l0_5 l0_6 v0_0 v0_1 v0_5 v0_6 r8524 r8525 t8526 t8527 t8528 r8529 r8530 t8531 hA8532) rfl rfl (ltn rfl) (All_of (.cons (mG 0 rfl) (.cons (mG 1 rfl) (.cons (mG 2 rfl) (.cons (mG 3 rfl) .nil)))))) <|
       ?_
      rintro _ _ _ ⟨v8534, v8536, v8538, v8540, rfl, rfl, rfl⟩
      refine ⟨⟨trivial, ⟨⟨1, rfl⟩, trivial⟩, trivial⟩, ?_⟩
      exact VA.more ⟨0, [], [.row v8534 1 (r8524.map enc_str), .row v8536 2 (r8525.map enc71)], [(g8490, 27, [v0_0, v0_1, iv a0_2, iv a0_3, iv a0_4, v0_5, v0_6])], [(v8538, 9, 1, r8529.map enc_str), (v8540, 9, 1, r8530.map enc_str)]⟩ ⟨trivial, ⟨⟨0, rfl⟩, trivial⟩, trivial⟩ <|
       av 4 31 rfl (op_extract rfl rfl) <| av 5 63 rfl (op_extract rfl rfl) <| aO 6 127 rfl (o_store 0 7 rfl rfl rfl TI27 (.agg (.f 0 rfl (.f 1 rfl (.c rfl (.c rfl (.c rfl (.r 0 rfl (.r 1 rfl .nil)))))))) rfl (len rfl)) <| av 7 255 rfl (ag rfl) <| ad <| VN.meet4 v8534 v8536 v8538 v8540 [0] [0, 1] trivial
    intro v8534 v8536 v8538 v8540 _
    refine VC.ret <| ?_
    simp only [Option.some.injEq, Prod.mk.injEq] at h
    obtain ⟨rfl, rfl, rfl, rfl, rfl, rfl, rfl, rfl⟩ := h
    exact rf [.cell 2 27, .tmp 3] [0, 1] (.cell 0 rfl rfl TI27 (fun h => absurd h (by decide)) (.tmp rfl .nil)) ⟨v8534, v8536, v8538, v8540, rfl, rfl, rfl⟩
  obtain rfl := Bool.eq_false_iff.2 c8513
  refine va (op_not rfl rfl) <| vs rfl <| dt <| ct <| sr <| va (op_build (vals := []) (vcs := []) (cells := [sn, sn, iv 0, iv 0, iv 0, sn, sn]) SI27 rfl .nil (by kernel_rfl)) <|
   s1 (o_store 0 7 rfl rfl rfl TI27 (.agg (.of rfl)) rfl (len rfl)) <| vs rfl <| dt <| VC.ret <| VR.block <| VR.then <| ?_
  simp only [Option.some.injEq, Prod.mk.injEq] at h
  obtain ⟨rfl, rfl, rfl, rfl, rfl, rfl, rfl, rfl⟩ := h
  exact VR.nilFact' 1 <| VR.nilFact' 2 <| VR.nilRow' 9 1 <| VR.nilRow' 9 1 <| rf [.cell 2 27, .tmp 3] [1, 0] (.cell 0 rfl rfl TI27 (fun h => absurd h (by decide)) (.tmp rfl .nil)) ⟨sn, sn, sn, sn, rfl, rfl, rfl⟩

end Go.Proofs.YtipeglbeongfmaaGreat.PJournalSeals
