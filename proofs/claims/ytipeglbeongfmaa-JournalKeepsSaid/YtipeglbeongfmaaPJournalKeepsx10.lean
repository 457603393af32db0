/- Written by a program of this repo: what the program's functions do, each as a Lean function, shown of the loaded code; or a statement's row over that; no condition of its own. -/
import Derived.Test.YtipeglbeongfmaaPJournalKeepsx9
namespace Go.Proofs.Ytipeglbeongfmaa.PJournalKeeps
open Go Go.RowKit Go.Proofs.YtipeglbeongfmaaV
set_option linter.unusedVariables false
set_option linter.unusedSimpArgs false
set_option maxHeartbeats 4000000
set_option maxRecDepth 100000

theorem disk_Crash.ok (k : Nat) (l0_0 : List ByteArray) (l0_1 : List S55) (a1 : Int) (a2 : Int) (v0_0 : Value) (v0_1 : Value) (r1 : List ByteArray) (r2 : List S55) (r3 : Int) (h : disk_Crash.f k l0_0 l0_1 a1 a2 = some (r1, r2, r3)) :
    VCalls Try.prog 50 [.agg #[v0_0, v0_1], .int .u64 a1, .int .i64 a2] [.row v0_0 1 (l0_0.map enc_str), .row v0_1 2 (l0_1.map enc55)] (fun v G own => ∃ w0 w1 : Value, v = .tuple #[.agg #[w0, w1], .int .i64 r3] ∧ G = [] ∧ own = [(w0, 9, 1, r1.map enc_str), (w1, 56, 2, r2.map enc55)]) := by
  refine VCalls.introU (fun T => T = 5) Try.func50 rfl (len rfl) fun E hC hW hD hU => ?_
  unfold disk_Crash.f at h
  refine sr <| sG (o_box rfl (.agg (.f 0 rfl (.f 1 rfl .nil)))) fun g7801 => sG (o_alloc Z25 ZL25) fun g7802 => vs rfl <| ds <| sr <| va (op_load 1 2 rfl rfl TI25 rfl (fun h => absurd h (by decide))) <| ?_
  replace h := bd h
  obtain ⟨t7814, hA7815, h⟩ := h
  refine sC (o_call0 FO23 (disk_Right.ok k l0_0 l0_1 v0_0 v0_1 t7814 hA7815) rfl rfl (ltn rfl) (All_of (.cons (mG 0 rfl) (.cons (mG 1 rfl) .nil)))) <| ?_
  rintro _ _ _ ⟨rfl, rfl, rfl⟩
  replace h := iC h
  rcases h with ⟨c7816, h⟩ | ⟨c7816, h⟩
  · obtain rfl := c7816
    refine va (op_not rfl rfl) <| dt <| cf <| sk <| sr <| va (op_fieldAddr FI25_0 rfl (add_at _ _ _)) <| va (op_load 1 1 rfl rfl TI22 rfl (by decide)) <| ?_
    replace h := bd h
    obtain ⟨r7817, hA7818, h⟩ := h
    refine sC (o_call_b0 FO73 (slices_Clone_string_string.ok l0_0 v0_0 r7817 hA7818) rfl rfl (ltn rfl) (All_of (.cons (.inl (mG 0 rfl)) .nil)) (by rintro _ _ _ ⟨_, rfl, rfl, rfl⟩; rfl)) <| ?_
    rintro v7820 _ _ ⟨_, rfl, rfl, rfl⟩
    refine vs rfl <| nx <| vs rfl <| dt <| VC.join3 (fun (v8224 : Value) (l8225 : List ByteArray) (i8226 : Int) => ⟨77, [(2, .int .i64 a2), (3, .pointer (some ⟨g7801, 0, none⟩)), (6, .pointer (some ⟨g7802, 0, none⟩)), (7, .int .i64 0), (8, v8224), (9, .int .i64 i8226)], [.row v0_0 1 (l0_0.map enc_str), .row v0_1 2 (l0_1.map enc55)], [(g7802, 25, [.slice none 0 0, .slice none 0 0]), (g7801, 25, [v0_0, v0_1])], [(v8224, 9, 1, l8225.map enc_str)]⟩) (fun (v8224 : Value) (l8225 : List ByteArray) (i8226 : Int) => disk_Crash.j2 k a2 l0_1 l8225 i8226 = some (r1, r2, r3)) ?_ ?_
    · refine sr <| va (op_fieldAddr FI25_1 rfl (add_at _ _ _)) <| va (op_load 1 1 rfl rfl TI23 rfl (by decide)) <| va (op_len (m := l0_1.length) 1 lenm Try.underlying23 rfl rfl) <| vm rfl <| dt <| VC.block <|
       VC.loop4 (fun (v8161 : Value) (l8162 : List ByteArray) (i8163 : Int) (i8164 : Int) => ⟨77, [(1, .int .u64 a1), (2, .int .i64 a2), (3, .pointer (some ⟨g7801, 0, none⟩)), (6, .pointer (some ⟨g7802, 0, none⟩)), (7, .int .i64 0), (8, v8161), (9, .int .i64 i8163), (22, v0_1), (23, .int .i64 (l0_1.length : Int)), (24, .int .i64 i8164)], [.row v0_1 2 (l0_1.map enc55), .row v0_0 1 (l0_0.map enc_str)], [(g7802, 25, [.slice none 0 0, .slice none 0 0]), (g7801, 25, [v0_0, v0_1])], [(v8161, 9, 1, l8162.map enc_str)]⟩) (fun (ml3 : Nat) (v8161 : Value) (l8162 : List ByteArray) (i8163 : Int) (i8164 : Int) => disk_Crash.l3 k a1 a2 l0_1 ml3 l8162 i8163 i8164 = some (r1, r2, r3)) k v7820 r7817 (-1) 0 [0, 1] [0] h ⟨rfl, ⟨rfl, rfl, rfl, rfl, rfl, rfl, rfl, rfl, rfl, rfl, trivial⟩, ⟨⟨1, rfl⟩, ⟨0, rfl⟩, trivial⟩, rfl, by decide, rfl, by decide⟩ (by intros; simp [disk_Crash.l3]) <|
       ?_
      clear h
      intro ml3 ihl3 v8161 l8162 i8163 i8164 h
      simp only [disk_Crash.l3] at h
      refine sr <| VL.letter (decide (i8164 < (l0_1.length : Int))) fun b8194 hb8194 => va (op_cmp rfl rfl (congrArg some hb8194)) <| ds <| ?_
      replace h := iC h
      rcases h with ⟨c8196, h⟩ | ⟨c8196, h⟩
      · cases lT c8196 hb8194
        refine ct <| sk <| sq <| VC.block <| sr <| vm rfl <| ?_
        replace h := iN h
        obtain ⟨c8210, h⟩ := h
        replace h := bd h
        obtain ⟨x8211, hx8211, h⟩ := h
        refine VL.open (m := l0_1.length) 0 lenm rfl (pos_get hx8211) <| ?_
        rintro ad8212 n8213 rfl
        refine va (op_indexAddr Try.underlying23 TI56 rfl rfl c8210 (lt_get c8210 hx8211) rfl) <| va (op_load_row (sz := 2) (o := 0) 0 i8164.toNat 2 rfl rfl (get_map hx8211) TI56 rfl (fun h => absurd h (by decide))) <| sG (o_alloc Z56 ZL56) fun g8214 => vs rfl <|
         s1 (o_store 0 2 rfl rfl rfl TI56 (.agg (.of rfl)) rfl (len rfl)) <| nx <| vm rfl <| vm rfl <| va (op_shr rfl rfl c8210 rfl) <| va (op_bits rfl rfl rfl) <|
         VL.letter (((Go.bits .and .u64 (a1.fdiv (2 ^ min i8164.toNat IntKind.u64.bits)) 1) == 1)) fun b8215 hb8215 => va (op_cmp rfl rfl (congrArg some hb8215)) <| dt <| ?_
        replace h := iC h
        rcases h with ⟨c8216, h⟩ | ⟨c8216, h⟩
        · obtain rfl : b8215 = true := hb8215.symm.trans (beq_iff_eq.2 c8216)
          refine ct <| rg <| vm rfl <| va (op_fieldAddr FI56_0 rfl (add_at _ _ _)) <| va (op_load 0 1 rfl rfl TI3 rfl (by decide)) <| va (op_fieldAddr FI56_1 rfl (add_at _ _ _)) <| va (op_load 0 1 rfl rfl TI9 rfl (by decide)) <| ?_
          replace h := iN h
          obtain ⟨c8217, h⟩ := h
          replace h := bd h
          obtain ⟨x8218, hx8218, h⟩ := h
          refine VL.openR (m := l8162.length) 0 lenm rfl (pos_get hx8218) <| ?_
          rintro g8219 n8220 rfl
          refine va (op_indexAddr Try.underlying22 TI9 rfl rfl c8217 (lt_get c8217 hx8218) (add_zero_at _ _)) <| s1 (o_store_own (sz := 1) (o := 0) (es3 := List.map enc_str (l8162.set x8211.f0.toNat x8211.f1)) 0 x8211.f0.toNat 1 lenm (setm rfl) rfl rfl rfl (get_map hx8218) TI9 (.c rfl) rfl (len rfl)) <|
           dn <| VN.block <| tr <| va (op_ari64 rfl rfl rfl) <| vm rfl <| dn <|
           VN.again [1, 2] [0] (ihl3 (.slice (some ⟨g8219, 0, none⟩) l8162.length n8220) (l8162.set x8211.f0.toNat x8211.f1) i8163 (wrap64 (i8164 + 1)) h) ⟨rfl, ⟨rfl, rfl, rfl, rfl, rfl, rfl, rfl, rfl, rfl, rfl, trivial⟩, ⟨⟨0, rfl⟩, ⟨1, rfl⟩, trivial⟩, rfl, by decide, rfl, by decide⟩
        obtain rfl : b8215 = false := hb8215.symm.trans (beq_eq_false_iff_ne.2 c8216)
        refine cf <| rg <| vm rfl <| vs rfl <| dn <| VN.block <| tr <| va (op_ari64 rfl rfl rfl) <| vm rfl <| dn <|
         VN.again [1, 2] [0] (ihl3 v8161 l8162 i8164 (wrap64 (i8164 + 1)) h) ⟨rfl, ⟨rfl, rfl, rfl, rfl, rfl, rfl, rfl, rfl, rfl, rfl, trivial⟩, ⟨⟨0, rfl⟩, ⟨1, rfl⟩, trivial⟩, rfl, by decide, rfl, by decide⟩
      cases lF c8196 hb8194
      refine cf <| VC.exit <| VX.then <| VX.then <| VX.hit <| VN.meet3 v8161 l8162 i8163 [0, 1] [0] h ⟨rfl, ⟨rfl, rfl, rfl, rfl, rfl, rfl, trivial⟩, ⟨⟨1, rfl⟩, ⟨0, rfl⟩, trivial⟩, rfl, by decide, rfl, by decide⟩
    clear h
    intro v8224 l8225 i8226 h
    unfold disk_Crash.j2 at h
    refine sq <| sr <| vm rfl <| VL.letter (decide (i8226 ≥ 0)) fun b8262 hb8262 => va (op_cmp rfl rfl (congrArg some hb8262)) <| vm rfl <| ?_
    replace h := iC h
    rcases h with ⟨c8263, h⟩ | ⟨c8263, h⟩
    · cases lT c8263 hb8262
      refine vm rfl <| VL.letter (decide (a2 ≥ 1)) fun b8264 hb8264 => va (op_cmp rfl rfl (congrArg some hb8264)) <| va (op_pick rfl rfl) <| vm rfl <| ?_
      replace h := iC h
      rcases h with ⟨c8265, h⟩ | ⟨c8265, h⟩
      · cases lT c8265 hb8264
        refine vm rfl <| VL.letter (decide (a2 < 64)) fun b8266 hb8266 => va (op_cmp rfl rfl (congrArg some hb8266)) <| va (op_pick rfl rfl) <| dt <| ?_
        replace h := iC h
        rcases h with ⟨c8267, h⟩ | ⟨c8267, h⟩
        · cases lT c8267 hb8266
          refine ct <| sr <| va (op_fieldAddr FI25_1 rfl (add_at _ _ _)) <| va (op_load 1 1 rfl rfl TI23 rfl (by decide)) <| vm rfl <| ?_
          replace h := iN h
          obtain ⟨c8268, h⟩ := h
          replace h := bd h
          obtain ⟨x8269, hx8269, h⟩ := h
          refine VL.open (m := l0_1.length) 1 lenm rfl (pos_get hx8269) <| ?_
          rintro ad8270 n8271 rfl
          refine va (op_indexAddr Try.underlying23 TI56 rfl rfl c8268 (lt_get c8268 hx8269) rfl) <| va (op_load_row (sz := 2) (o := 0) 1 i8226.toNat 2 rfl rfl (get_map hx8269) TI56 rfl (fun h => absurd h (by decide))) <|
           sG (o_alloc Z56 ZL56) fun g8272 => s1 (o_store 0 2 rfl rfl rfl TI56 (.agg (.of rfl)) rfl (len rfl)) <| nx <| vm rfl <| va (op_fieldAddr FI56_0 rfl (add_at _ _ _)) <| va (op_load 0 1 rfl rfl TI3 rfl (by decide)) <| ?_
          replace h := iN h
          obtain ⟨c8273, h⟩ := h
          replace h := bd h
          obtain ⟨x8274, hx8274, h⟩ := h
          refine VL.openR (m := l8225.length) 0 lenm rfl (pos_get hx8274) <| ?_
          rintro g8275 n8276 rfl
          refine va (op_indexAddr Try.underlying22 TI9 rfl rfl c8273 (lt_get c8273 hx8274) (add_zero_at _ _)) <| va (op_load_own (sz := 1) (o := 0) 0 x8269.f0.toNat 1 rfl rfl (get_map hx8274) TI9 rfl (by decide)) <|
           o_strBytesB Try.underlying9 Try.underlying41 Try.underlying5 (by rw [hU]) rfl (ltn rfl) rfl fun g8277 n8278 z8279 => vs rfl <| nx <| vm rfl <| va (op_fieldAddr FI56_1 rfl (add_at _ _ _)) <| va (op_load 1 1 rfl rfl TI9 rfl (by decide)) <| vm rfl <| ?_
          replace h := iN h
          obtain ⟨c8280, h⟩ := h
          replace h := iN h
          obtain ⟨c8281, h⟩ := h
          refine va (op_sliceS 0 a2.toNat Try.underlying9 rfl ⟨rfl, ⟨_, _, rfl, c8280, rfl⟩, Nat.zero_le _, tN (a := a2) (b := (x8269.f1.size : Int)) rfl rfl c8281⟩ rfl) <| ?_
          replace h := iN h
          obtain ⟨c8282, h⟩ := h
          refine s1 (o_copyS 0 Try.underlying41 TI5 rfl rfl rfl c8282 rfl) <| dr <| vm rfl <| va (op_fieldAddr FI56_0 rfl (add_at _ _ _)) <| va (op_load 1 1 rfl rfl TI3 rfl (by decide)) <| vm rfl <| ?_
          replace h := iN h
          obtain ⟨c8283, h⟩ := h
          refine va (op_bytesStrB 0 Try.underlying41 Try.underlying9 Try.underlying5 rfl rfl c8283) <| ?_
          replace h := bd h
          obtain ⟨x8284, hx8284, h⟩ := h
          refine va (op_indexAddr Try.underlying22 TI9 rfl rfl c8273 (lt_get c8273 hx8284) (add_zero_at _ _)) <|
           s1 (o_store_own (sz := 1) (o := 0) (es3 := List.map enc_str (l8225.set x8269.f0.toNat (strOfNums ((byI (x8269.f1.extract 0 a2.toNat)).take (min (x8269.f1.extract 0 a2.toNat).size x8274.size) ++ (byI x8274).drop (min (x8269.f1.extract 0 a2.toNat).size x8274.size))))) 0 x8269.f0.toNat 1 lenm (setm rfl) rfl rfl rfl (get_map hx8284) TI9 (.c rfl) rfl (len rfl)) <|
           nx <| vm rfl <| va (op_build (vals := [(0, (.slice (some ⟨g8275, 0, none⟩) l8225.length n8276))]) (vcs := [(0, [(.slice (some ⟨g8275, 0, none⟩) l8225.length n8276)])]) (cells := [(.slice (some ⟨g8275, 0, none⟩) l8225.length n8276), .slice none 0 0]) SI25 rfl (.cons ⟨rfl, (.r 0 rfl)⟩ .nil) (by kernel_rfl)) <|
           s1 (o_store 2 2 rfl rfl rfl TI25 (.agg (.r 0 rfl (.c rfl .nil))) rfl (len rfl)) <| vs rfl <| dt <| VC.ret <| ?_
          simp only [Option.some.injEq, Prod.mk.injEq] at h
          obtain ⟨rfl, rfl, rfl⟩ := h
          exact VR.nilRow' 56 2 <| VR.fn (rs := [.cell 6 25, .tmp 7]) [] [((.slice (some ⟨g8275, 0, none⟩) l8225.length n8276), 9, 1, (l8225.set x8269.f0.toNat (strOfNums ((byI (x8269.f1.extract 0 a2.toNat)).take (min (x8269.f1.extract 0 a2.toNat).size x8274.size) ++ (byI x8274).drop (min (x8269.f1.extract 0 a2.toNat).size x8274.size)))).map enc_str), ((.slice none 0 0), 56, 2, ([] : List S55).map enc55)] [1, 0] rfl (.cell 2 rfl rfl TI25 (fun h => absurd h (by decide)) (.tmp rfl .nil)) ⟨(.slice (some ⟨g8275, 0, none⟩) l8225.length n8276), (.slice none 0 0), rfl, rfl, rfl⟩ trivial rfl (by decide)
        cases lF c8267 hb8266
        refine cf <| sk <| sr <| vm rfl <| va (op_build (vals := [(0, v8224)]) (vcs := [(0, [v8224])]) (cells := [v8224, .slice none 0 0]) SI25 rfl (.cons ⟨rfl, (.r 0 rfl)⟩ .nil) (by kernel_rfl)) <| s1 (o_store 0 2 rfl rfl rfl TI25 (.agg (.r 0 rfl (.c rfl .nil))) rfl (len rfl)) <| vs rfl <| dt <| VC.ret <|
         ?_
        simp only [Option.some.injEq, Prod.mk.injEq] at h
        obtain ⟨rfl, rfl, rfl⟩ := h
        exact VR.nilRow' 56 2 <| VR.fn (rs := [.cell 6 25, .tmp 7]) [] [(v8224, 9, 1, l8225.map enc_str), ((.slice none 0 0), 56, 2, ([] : List S55).map enc55)] [1, 0] rfl (.cell 0 rfl rfl TI25 (fun h => absurd h (by decide)) (.tmp rfl .nil)) ⟨v8224, (.slice none 0 0), rfl, rfl, rfl⟩ trivial rfl (by decide)
      cases lF c8265 hb8264
      refine un rfl <| un rfl <| va (op_pick rfl rfl) <| dt <| cf <| sk <| sr <| vm rfl <| va (op_build (vals := [(0, v8224)]) (vcs := [(0, [v8224])]) (cells := [v8224, .slice none 0 0]) SI25 rfl (.cons ⟨rfl, (.r 0 rfl)⟩ .nil) (by kernel_rfl)) <|
       s1 (o_store 0 2 rfl rfl rfl TI25 (.agg (.r 0 rfl (.c rfl .nil))) rfl (len rfl)) <| vs rfl <| dt <| VC.ret <| ?_
      simp only [Option.some.injEq, Prod.mk.injEq] at h
      obtain ⟨rfl, rfl, rfl⟩ := h
      exact VR.nilRow' 56 2 <| VR.fn (rs := [.cell 6 25, .tmp 7]) [] [(v8224, 9, 1, l8225.map enc_str), ((.slice none 0 0), 56, 2, ([] : List S55).map enc55)] [1, 0] rfl (.cell 0 rfl rfl TI25 (fun h => absurd h (by decide)) (.tmp rfl .nil)) ⟨v8224, (.slice none 0 0), rfl, rfl, rfl⟩ trivial rfl (by decide)
    cases lF c8263 hb8262
    refine un rfl <| un rfl <| va (op_pick rfl rfl) <| vm rfl <| un rfl <| un rfl <| va (op_pick rfl rfl) <| dt <| cf <| sk <| sr <| vm rfl <| va (op_build (vals := [(0, v8224)]) (vcs := [(0, [v8224])]) (cells := [v8224, .slice none 0 0]) SI25 rfl (.cons ⟨rfl, (.r 0 rfl)⟩ .nil) (by kernel_rfl)) <|
     s1 (o_store 0 2 rfl rfl rfl TI25 (.agg (.r 0 rfl (.c rfl .nil))) rfl (len rfl)) <| vs rfl <| dt <| VC.ret <| ?_
    simp only [Option.some.injEq, Prod.mk.injEq] at h
    obtain ⟨rfl, rfl, rfl⟩ := h
    exact VR.nilRow' 56 2 <| VR.fn (rs := [.cell 6 25, .tmp 7]) [] [(v8224, 9, 1, l8225.map enc_str), ((.slice none 0 0), 56, 2, ([] : List S55).map enc55)] [1, 0] rfl (.cell 0 rfl rfl TI25 (fun h => absurd h (by decide)) (.tmp rfl .nil)) ⟨v8224, (.slice none 0 0), rfl, rfl, rfl⟩ trivial rfl (by decide)
  obtain rfl := Bool.eq_false_iff.2 c7816
  refine va (op_not rfl rfl) <| dt <| ct <| sr <| va (op_build (vals := []) (vcs := []) (cells := [.slice none 0 0, .slice none 0 0]) SI25 rfl .nil (by kernel_rfl)) <| s1 (o_store 0 2 rfl rfl rfl TI25 (.agg (.of rfl)) rfl (len rfl)) <| vs rfl <| dt <| VC.ret <| VR.then <| ?_
  simp only [Option.some.injEq, Prod.mk.injEq] at h
  obtain ⟨rfl, rfl, rfl⟩ := h
  exact VR.nilRow' 9 1 <| VR.nilRow' 56 2 <| VR.fn (rs := [.cell 6 25, .tmp 7]) [] [((.slice none 0 0), 9, 1, ([] : List ByteArray).map enc_str), ((.slice none 0 0), 56, 2, ([] : List S55).map enc55)] [1, 0] rfl (.cell 0 rfl rfl TI25 (fun h => absurd h (by decide)) (.tmp rfl .nil)) ⟨(.slice none 0 0), (.slice none 0 0), rfl, rfl, rfl⟩ trivial rfl (by decide)

theorem disk_Flush.ok (k : Nat) (l0_0 : List ByteArray) (l0_1 : List S55) (v0_0 : Value) (v0_1 : Value) (r1 : List ByteArray) (r2 : List S55) (r3 : Int) (h : disk_Flush.f k l0_0 l0_1 = some (r1, r2, r3)) :
    VCalls Try.prog 41 [.agg #[v0_0, v0_1]] [.row v0_0 1 (l0_0.map enc_str), .row v0_1 2 (l0_1.map enc55)] (fun v G own => ∃ w0 w1 : Value, v = .tuple #[.agg #[w0, w1], .int .i64 r3] ∧ G = [] ∧ own = [(w0, 9, 1, r1.map enc_str), (w1, 56, 2, r2.map enc55)]) := by
  refine VCalls.intro Try.func41 rfl (len rfl) fun E hC hW hD hU => ?_
  unfold disk_Flush.f at h
  refine sr <| sG (o_box rfl (.agg (.f 0 rfl (.f 1 rfl .nil)))) fun g7797 => sG (o_alloc Z25 ZL25) fun g7798 => vs rfl <| nx <| va (op_load 1 2 rfl rfl TI25 rfl (fun h => absurd h (by decide))) <| ?_
  replace h := bd h
  obtain ⟨⟨r8293, r8294, t8295⟩, hA8296, h⟩ := h
  dsimp only at h
  refine sC (o_call0 FO50 (disk_Crash.ok k l0_0 l0_1 18446744073709551615 0 v0_0 v0_1 r8293 r8294 t8295 hA8296) rfl rfl (ltn rfl) (All_of (.cons (mG 0 rfl) (.cons (mG 1 rfl) .nil)))) <| ?_
  rintro _ _ _ ⟨v8298, v8300, rfl, rfl, rfl⟩
  refine va (op_extract rfl rfl) <| va (op_extract rfl rfl) <| s1 (o_store 0 2 rfl rfl rfl TI25 (.agg (.r 0 rfl (.r 1 rfl .nil))) rfl (len rfl)) <| vs rfl <| dt <| VC.ret <| ?_
  simp only [Option.some.injEq, Prod.mk.injEq] at h
  obtain ⟨rfl, rfl, rfl⟩ := h
  exact VR.fn (rs := [.cell 2 25, .tmp 3]) [] [(v8298, 9, 1, r8293.map enc_str), (v8300, 56, 2, r8294.map enc55)] [0, 1] rfl (.cell 0 rfl rfl TI25 (fun h => absurd h (by decide)) (.tmp rfl .nil)) ⟨v8298, v8300, rfl, rfl, rfl⟩ trivial rfl (by decide)

theorem journal_head_sector.ok (a0_0 : List Int)  (r1 : ByteArray) (h : journal_head_sector.f a0_0 = some r1) :
    VCalls Try.prog 40 [.agg (ints .u8 a0_0).toArray] [] (fun v G own => v = .string r1 ∧ G = [] ∧ own = []) := by
  refine VCalls.intro Try.func40 rfl (len rfl) fun E hC hW hD hU => ?_
  unfold journal_head_sector.f at h
  refine sr <| sG (o_box rfl cells_ints) fun g8312 => vs rfl <| dt <| ?_
  replace h := iN h
  obtain ⟨c8313, h⟩ := h
  replace h := iN h
  obtain ⟨c8318, h⟩ := h
  refine VC.freeze' 0 rfl <| VC.join0 (⟨8, [(2, .string ((strOfNums a0_0) ++ (strOfNums a0_0)))], [], [], []⟩) (True) ?_ ?_
  · refine VC.draw ⟨0, [], [.at_ ⟨g8312, 0, none⟩ (ints .u8 a0_0)], [], []⟩ (by kernel_rfl) rfl (by kernel_rfl) (n := 6) (listed := LB 6 0) <| VA.all [0, 2] (by kernel_rfl) (by simp) <|
     VAll.consG (listed' := LB 6 1) rfl (o_sliceA (es := List.map enc_intu8 a0_0) 0 Try.underlying74 TI5 rfl rfl c8313 rfl (by decide)) rfl (by kernel_rfl) (fun _ => ⟨⟨⟨1, rfl⟩, trivial⟩, trivial, trivial⟩) ?_ ?_
    · intro v8315
      exact VA.more ⟨0, [], [.at_ ⟨g8312, 0, none⟩ (ints .u8 a0_0), .row v8315 1 (a0_0.map enc_intu8)], [], []⟩ ⟨⟨⟨0, rfl⟩, trivial⟩, trivial, trivial⟩ <|
       aw 1 3 rfl (op_bytesStr (xs := a0_0) 1 rfl rfl Try.underlying41 Try.underlying9 Try.underlying5 rfl rfl) ⟨⟨⟨1, rfl⟩, ⟨0, rfl⟩, trivial⟩, trivial, trivial⟩ <|
       VA.oneG (i := 2) (listed' := LB 6 7) (by kernel_rfl) rfl (o_sliceA (es := List.map enc_intu8 a0_0) 1 Try.underlying74 TI5 rfl rfl c8313 rfl (by decide)) rfl (by kernel_rfl) (fun _ => ⟨⟨⟨2, rfl⟩, ⟨1, rfl⟩, trivial⟩, trivial, trivial⟩) fun v8317 => VA.more ⟨0, [], [.at_ ⟨g8312, 0, none⟩ (ints .u8 a0_0), .row v8315 1 (a0_0.map enc_intu8), .row v8317 1 (a0_0.map enc_intu8)], [], []⟩ ⟨⟨⟨0, rfl⟩, ⟨1, rfl⟩, trivial⟩, trivial, trivial⟩ <|
       aw 3 15 rfl (op_bytesStr (xs := a0_0) 2 rfl rfl Try.underlying41 Try.underlying9 Try.underlying5 rfl rfl) ⟨⟨⟨2, rfl⟩, ⟨1, rfl⟩, ⟨0, rfl⟩, trivial⟩, trivial, trivial⟩ <| aw 4 31 rfl (op_adds rfl rfl rfl c8318) ⟨⟨⟨2, rfl⟩, ⟨1, rfl⟩, ⟨0, rfl⟩, trivial⟩, trivial, trivial⟩ <|
       aw 5 63 rfl (ag rfl) ⟨⟨⟨2, rfl⟩, ⟨1, rfl⟩, ⟨0, rfl⟩, trivial⟩, trivial, trivial⟩ <| VA.done (by kernel_rfl) <| VN.meet0  [] [] trivial ⟨rfl, ⟨rfl, trivial⟩, trivial, rfl, by decide, rfl, by decide⟩
    refine VAll.consG (listed' := LB 6 4) rfl (o_sliceA (es := List.map enc_intu8 a0_0) 0 Try.underlying74 TI5 rfl rfl c8313 rfl (by decide)) rfl (by kernel_rfl) (fun _ => ⟨⟨⟨1, rfl⟩, trivial⟩, trivial, trivial⟩) ?_ VAll.nil
    intro v8317
    exact VA.more ⟨0, [], [.at_ ⟨g8312, 0, none⟩ (ints .u8 a0_0), .row v8317 1 (a0_0.map enc_intu8)], [], []⟩ ⟨⟨⟨0, rfl⟩, trivial⟩, trivial, trivial⟩ <|
     aw 3 12 rfl (op_bytesStr (xs := a0_0) 1 rfl rfl Try.underlying41 Try.underlying9 Try.underlying5 rfl rfl) ⟨⟨⟨1, rfl⟩, ⟨0, rfl⟩, trivial⟩, trivial, trivial⟩ <|
     VA.oneG (i := 0) (listed' := LB 6 13) (by kernel_rfl) rfl (o_sliceA (es := List.map enc_intu8 a0_0) 1 Try.underlying74 TI5 rfl rfl c8313 rfl (by decide)) rfl (by kernel_rfl) (fun _ => ⟨⟨⟨2, rfl⟩, ⟨1, rfl⟩, trivial⟩, trivial, trivial⟩) fun v8315 => VA.more ⟨0, [], [.at_ ⟨g8312, 0, none⟩ (ints .u8 a0_0), .row v8317 1 (a0_0.map enc_intu8), .row v8315 1 (a0_0.map enc_intu8)], [], []⟩ ⟨⟨⟨0, rfl⟩, ⟨1, rfl⟩, trivial⟩, trivial, trivial⟩ <|
     aw 1 15 rfl (op_bytesStr (xs := a0_0) 2 rfl rfl Try.underlying41 Try.underlying9 Try.underlying5 rfl rfl) ⟨⟨⟨2, rfl⟩, ⟨1, rfl⟩, ⟨0, rfl⟩, trivial⟩, trivial, trivial⟩ <| aw 4 31 rfl (op_adds rfl rfl rfl c8318) ⟨⟨⟨2, rfl⟩, ⟨1, rfl⟩, ⟨0, rfl⟩, trivial⟩, trivial, trivial⟩ <|
     aw 5 63 rfl (ag rfl) ⟨⟨⟨2, rfl⟩, ⟨1, rfl⟩, ⟨0, rfl⟩, trivial⟩, trivial, trivial⟩ <| VA.done (by kernel_rfl) <| VN.meet0  [] [] trivial ⟨rfl, ⟨rfl, trivial⟩, trivial, rfl, by decide, rfl, by decide⟩
  intro _
  refine VC.ret <| ?_
  obtain rfl := Option.some.inj h
  exact VR.fn (rs := [.tmp 2]) [] [] [] rfl (.tmp rfl .nil) ⟨rfl, rfl, rfl⟩ trivial rfl (by decide)

theorem journal_plan_second.ok (k : Nat) (a0_0 : Int) (a0_1 : Int) (a0_2 : ByteArray) (l1_0 : List ByteArray) (l1_1 : List S55) (a1_2 : Int) (a1_3 : Int) (a1_4 : Int) (l1_5 : List ByteArray) (l1_6 : List ByteArray) (v1_0 : Value) (v1_1 : Value) (v1_5 : Value) (v1_6 : Value) (r1 : List ByteArray) (r2 : List S55) (h : journal_plan_second.f k a0_0 a0_1 a0_2 l1_0 l1_1 a1_2 a1_3 a1_4 l1_5 l1_6 = some (r1, r2)) :
    VCalls Try.prog 49 [.agg #[.int .i64 a0_0, .int .i64 a0_1, .string a0_2], .agg #[v1_0, v1_1, .int .i64 a1_2, .int .i64 a1_3, .int .i64 a1_4, v1_5, v1_6]] [.row v1_0 1 (l1_0.map enc_str), .row v1_1 2 (l1_1.map enc55), .row v1_5 1 (l1_5.map enc_str), .row v1_6 1 (l1_6.map enc_str)] (fun v G own => ∃ w0 w1 : Value, v = .agg #[w0, w1] ∧ G = [.row w0 1 (r1.map enc_str), .row w1 2 (r2.map enc55)] ∧ own = []) := by
  refine VCalls.intro Try.func49 rfl (len rfl) fun E hC hW hD hU => ?_
  unfold journal_plan_second.f at h
  refine sr <| sG (o_box rfl (.agg (.of rfl))) fun g8333 => sG (o_box rfl (.agg (.f 0 rfl (.f 1 rfl (.c rfl (.c rfl (.c rfl (.f 2 rfl (.f 3 rfl .nil))))))))) fun g8334 => sG (o_alloc Z25 ZL25) fun g8335 => nx <| va (op_load 2 3 rfl rfl TI81 rfl (fun h => absurd h (by decide))) <|
   va (op_load 1 7 rfl rfl TI27 rfl (fun h => absurd h (by decide))) <| ?_
  replace h := bd h
  obtain ⟨⟨r8336, r8337⟩, hA8338, h⟩ := h
  dsimp only at h
  refine sC (o_call0 FO48 (journal_plan_first.ok k a0_0 a0_1 a0_2 l1_0 l1_1 a1_2 a1_3 a1_4 l1_5 l1_6 v1_0 v1_1 v1_5 v1_6 r8336 r8337 hA8338) rfl rfl (ltn rfl) (All_of (.cons (mG 0 rfl) (.cons (mG 1 rfl) (.cons (mG 2 rfl) (.cons (mG 3 rfl) .nil)))))) <| ?_
  rintro _ _ _ ⟨v8340, v8342, rfl, rfl, rfl⟩
  replace h := bd h
  obtain ⟨⟨r8343, r8344, t8345⟩, hA8346, h⟩ := h
  dsimp only at h
  refine sC (o_call0 FO41 (disk_Flush.ok k r8336 r8337 v8340 v8342 r8343 r8344 t8345 hA8346) rfl rfl (ltn rfl) (All_of (.cons (mG 0 rfl) (.cons (mG 1 rfl) .nil)))) <| ?_
  rintro _ _ _ ⟨v8348, v8350, rfl, rfl, rfl⟩
  refine vm rfl <| va (op_extract rfl rfl) <| va (op_extract rfl rfl) <| sG (o_alloc Z25 ZL25) fun g8351 => s1 (o_store 0 2 rfl rfl rfl TI25 (.agg (.r 0 rfl (.r 1 rfl .nil))) rfl (len rfl)) <| vs rfl <| nx <| va (op_fieldAddr FI27_1 rfl (add_at _ _ _)) <|
   va (op_load 2 1 rfl rfl TI3 rfl (by decide)) <| va (op_ari64 rfl rfl rfl) <| vs rfl <| dt <| ?_
  replace h := bd h
  obtain ⟨r8352, hA8353, h⟩ := h
  replace h := bd h
  obtain ⟨t8354, hA8355, h⟩ := h
  replace h := bd h
  obtain ⟨⟨r8356, r8357, t8358⟩, hA8359, h⟩ := h
  dsimp only at h
  refine VC.freezeRow' 0 rfl <| VC.freezeRow' 0 rfl <|
   VC.join2 (fun (v8361 : Value) (v8363 : Value) => ⟨37, [(4, .pointer (some ⟨g8335, 0, none⟩)), (5, .pointer (some ⟨g8351, 0, none⟩))], [.row v8361 1 (r8356.map enc_str), .row v8363 2 (r8357.map enc55)], [(g8351, 25, [v8361, v8363]), (g8335, 25, [.slice none 0 0, .slice none 0 0])], []⟩) (fun (v8361 : Value) (v8363 : Value) => True) ?_ ?_
  · refine VC.drawB ⟨0, [], [], [(g8333, 81, [.int .i64 a0_0, .int .i64 a0_1, .string a0_2])], []⟩ [18] ⟨0, [], [], [(g8351, 25, [v8348, v8350])], []⟩ (by kernel_rfl) rfl (by kernel_rfl) (n := 19) (listed := LB 19 0) <|
     VB.vb (i := 0) (listed' := LB 19 1) rfl (op_load 0 2 rfl rfl TI25 rfl (fun h => absurd h (by decide))) rfl (by kernel_rfl) (by kernel_rfl) (by kernel_rfl) (by kernel_rfl) (by kernel_rfl) (by kernel_rfl) (PartP.on ⟨trivial, ⟨⟨3, rfl⟩, trivial⟩, trivial⟩ ⟨trivial, ⟨⟨0, rfl⟩, trivial⟩, trivial⟩) (fun _ _ _ h => h) <|
     VB.va (i := 1) (listed' := LB 19 3) rfl (mv rfl) rfl (by kernel_rfl) (by kernel_rfl) (by kernel_rfl) (by kernel_rfl) (by decide) (PartP.on ⟨trivial, ⟨⟨3, rfl⟩, trivial⟩, trivial⟩ ⟨trivial, ⟨⟨0, rfl⟩, trivial⟩, trivial⟩) (fun _ _ _ h => h) <|
     VB.va (i := 2) (listed' := LB 19 7) rfl (op_rem rfl rfl (by decide) rfl) rfl (by kernel_rfl) (by kernel_rfl) (by kernel_rfl) (by kernel_rfl) (by decide) (PartP.on ⟨trivial, ⟨⟨3, rfl⟩, trivial⟩, trivial⟩ ⟨trivial, ⟨⟨0, rfl⟩, trivial⟩, trivial⟩) (fun _ _ _ h => h) <|
     VB.va (i := 3) (listed' := LB 19 15) rfl (mv rfl) rfl (by kernel_rfl) (by kernel_rfl) (by kernel_rfl) (by kernel_rfl) (by decide) (PartP.on ⟨trivial, ⟨⟨3, rfl⟩, trivial⟩, trivial⟩ ⟨trivial, ⟨⟨0, rfl⟩, trivial⟩, trivial⟩) (fun _ _ _ h => h) <|
     VB.va (i := 4) (listed' := LB 19 31) rfl (op_fieldAddr FI81_0 rfl (add_at _ _ _)) rfl (by kernel_rfl) (by kernel_rfl) (by kernel_rfl) (by kernel_rfl) (by decide) (PartP.on ⟨trivial, ⟨⟨3, rfl⟩, trivial⟩, trivial⟩ ⟨trivial, ⟨⟨0, rfl⟩, trivial⟩, trivial⟩) (fun _ _ _ h => h) <|
     VB.va (i := 5) (listed' := LB 19 63) rfl (op_load 0 1 rfl rfl TI3 rfl (by decide)) rfl (by kernel_rfl) (by kernel_rfl) (by kernel_rfl) (by kernel_rfl) (by decide) (PartP.on ⟨trivial, ⟨⟨3, rfl⟩, trivial⟩, trivial⟩ ⟨trivial, ⟨⟨0, rfl⟩, trivial⟩, trivial⟩) (fun _ _ _ h => h) <|
     VB.va (i := 6) (listed' := LB 19 127) rfl (op_fieldAddr FI81_1 rfl (add_at _ _ _)) rfl (by kernel_rfl) (by kernel_rfl) (by kernel_rfl) (by kernel_rfl) (by decide) (PartP.on ⟨trivial, ⟨⟨3, rfl⟩, trivial⟩, trivial⟩ ⟨trivial, ⟨⟨0, rfl⟩, trivial⟩, trivial⟩) (fun _ _ _ h => h) <|
     VB.va (i := 7) (listed' := LB 19 255) rfl (op_load 0 1 rfl rfl TI3 rfl (by decide)) rfl (by kernel_rfl) (by kernel_rfl) (by kernel_rfl) (by kernel_rfl) (by decide) (PartP.on ⟨trivial, ⟨⟨3, rfl⟩, trivial⟩, trivial⟩ ⟨trivial, ⟨⟨0, rfl⟩, trivial⟩, trivial⟩) (fun _ _ _ h => h) <|
     VB.va (i := 8) (listed' := LB 19 511) rfl (op_fieldAddr FI81_2 rfl (add_at _ _ _)) rfl (by kernel_rfl) (by kernel_rfl) (by kernel_rfl) (by kernel_rfl) (by decide) (PartP.on ⟨trivial, ⟨⟨3, rfl⟩, trivial⟩, trivial⟩ ⟨trivial, ⟨⟨0, rfl⟩, trivial⟩, trivial⟩) (fun _ _ _ h => h) <|
     VB.va (i := 9) (listed' := LB 19 1023) rfl (op_load 0 1 rfl rfl TI9 rfl (by decide)) rfl (by kernel_rfl) (by kernel_rfl) (by kernel_rfl) (by kernel_rfl) (by decide) (PartP.on ⟨trivial, ⟨⟨3, rfl⟩, trivial⟩, trivial⟩ ⟨trivial, ⟨⟨0, rfl⟩, trivial⟩, trivial⟩) (fun _ _ _ h => h) <|
     VB.va (i := 10) (listed' := LB 19 2047) rfl (op_lens Try.underlying9 rfl) rfl (by kernel_rfl) (by kernel_rfl) (by kernel_rfl) (by kernel_rfl) (by decide) (PartP.on ⟨trivial, ⟨⟨3, rfl⟩, trivial⟩, trivial⟩ ⟨trivial, ⟨⟨0, rfl⟩, trivial⟩, trivial⟩) (fun _ _ _ h => h) <|
     VB.va (i := 11) (listed' := LB 19 4095) rfl (op_ari64 rfl rfl rfl) rfl (by kernel_rfl) (by kernel_rfl) (by kernel_rfl) (by kernel_rfl) (by decide) (PartP.on ⟨trivial, ⟨⟨3, rfl⟩, trivial⟩, trivial⟩ ⟨trivial, ⟨⟨0, rfl⟩, trivial⟩, trivial⟩) (fun _ _ _ h => h) <|
     VB.oneC (i := 12) (listed' := LB 19 8191) (by kernel_rfl) rfl (o_call0 FO39 (journal_headOf.ok k (wrap64 (a1_2 + 1)) a0_0 (wrap64 (a0_1 + (a0_2.size : Int))) r8352 hA8353) rfl rfl (ltn rfl) (All_of .nil)) rfl (by kernel_rfl) <| ?_
    rintro _ _ _ ⟨rfl, rfl, rfl⟩
    refine ⟨(PartP.on ⟨trivial, ⟨⟨3, rfl⟩, trivial⟩, trivial⟩ ⟨trivial, ⟨⟨0, rfl⟩, trivial⟩, trivial⟩), ?_⟩
    refine VB.oneC (i := 13) (listed' := LB 19 16383) (by kernel_rfl) rfl (o_call0 FO40 (journal_head_sector.ok r8352 t8354 hA8355) rfl rfl (ltn rfl) (All_of .nil)) rfl (by kernel_rfl) <| ?_
    rintro _ _ _ ⟨rfl, rfl, rfl⟩
    refine ⟨(PartP.on ⟨trivial, ⟨⟨3, rfl⟩, trivial⟩, trivial⟩ ⟨trivial, ⟨⟨0, rfl⟩, trivial⟩, trivial⟩), ?_⟩
    refine VB.oneC (i := 14) (listed' := LB 19 32767) (by kernel_rfl) rfl (o_call0 FO38 (disk_Put.ok k r8343 r8344 ((wrap64 (a1_2 + 1)).tmod 2) t8354 v8348 v8350 r8356 r8357 t8358 hA8359) rfl rfl (ltn rfl) (All_of (.cons (mG 1 rfl) (.cons (mG 0 rfl) .nil)))) rfl (by kernel_rfl) <| ?_
    rintro _ _ _ ⟨v8361, v8363, rfl, rfl, rfl⟩
    refine ⟨(PartP.on ⟨trivial, ⟨⟨3, rfl⟩, trivial⟩, trivial⟩ ⟨trivial, ⟨⟨0, rfl⟩, trivial⟩, trivial⟩), ?_⟩
    exact VB.more ⟨0, [], [.row v8361 1 (r8356.map enc_str), .row v8363 2 (r8357.map enc55)], [(g8333, 81, [.int .i64 a0_0, .int .i64 a0_1, .string a0_2])], []⟩ ⟨trivial, ⟨⟨0, rfl⟩, trivial⟩, trivial⟩ <|
     VB.va (i := 15) (listed' := LB 19 65535) rfl (mv rfl) rfl (by kernel_rfl) (by kernel_rfl) (by kernel_rfl) (by kernel_rfl) (by decide) (PartP.on ⟨⟨⟨0, rfl⟩, ⟨1, rfl⟩, trivial⟩, ⟨⟨3, rfl⟩, trivial⟩, trivial⟩ ⟨trivial, ⟨⟨0, rfl⟩, trivial⟩, trivial⟩) (fun _ _ _ h => h) <|
     VB.va (i := 16) (listed' := LB 19 131071) rfl (op_extract rfl rfl) rfl (by kernel_rfl) (by kernel_rfl) (by kernel_rfl) (by kernel_rfl) (by decide) (PartP.on ⟨⟨⟨0, rfl⟩, ⟨1, rfl⟩, trivial⟩, ⟨⟨3, rfl⟩, trivial⟩, trivial⟩ ⟨trivial, ⟨⟨0, rfl⟩, trivial⟩, trivial⟩) (fun _ _ _ h => h) <|
     VB.va (i := 17) (listed' := LB 19 262143) rfl (op_extract rfl rfl) rfl (by kernel_rfl) (by kernel_rfl) (by kernel_rfl) (by kernel_rfl) (by decide) (PartP.on ⟨⟨⟨0, rfl⟩, ⟨1, rfl⟩, trivial⟩, ⟨⟨3, rfl⟩, trivial⟩, trivial⟩ ⟨trivial, ⟨⟨0, rfl⟩, trivial⟩, trivial⟩) (fun _ _ _ h => h) <|
     VB.one1 (i := 18) (listed' := LB 19 524287) (by kernel_rfl) rfl (o_store 0 2 rfl rfl rfl TI25 (.agg (.f 0 rfl (.f 1 rfl .nil))) rfl (len rfl)) rfl (by kernel_rfl) (PartP.off (by kernel_rfl) ⟨⟨⟨0, rfl⟩, ⟨1, rfl⟩, trivial⟩, ⟨⟨3, rfl⟩, trivial⟩, trivial⟩) <| VB.done (by kernel_rfl) <|
     VN.meet2 v8361 v8363 [0, 1] [] trivial ⟨rfl, ⟨rfl, rfl, trivial⟩, ⟨⟨0, rfl⟩, ⟨1, rfl⟩, trivial⟩, rfl, by decide, rfl, by decide⟩
  intro v8361 v8363 _
  refine sr <| va (op_load 0 2 rfl rfl TI25 rfl (fun h => absurd h (by decide))) <| s1 (o_store 1 2 rfl rfl rfl TI25 (.agg (.f 0 rfl (.f 1 rfl .nil))) rfl (len rfl)) <| dt <| VC.ret <| ?_
  simp only [Option.some.injEq, Prod.mk.injEq] at h
  obtain ⟨rfl, rfl⟩ := h
  exact VR.fn (rs := [.cell 4 25]) [.row v8361 1 (r8356.map enc_str), .row v8363 2 (r8357.map enc55)] [] [] rfl (.cell 1 rfl rfl TI25 (fun h => absurd h (by decide)) .nil) ⟨v8361, v8363, rfl, rfl, rfl⟩ ⟨⟨0, rfl⟩, ⟨1, rfl⟩, trivial⟩ rfl (by decide)

end Go.Proofs.Ytipeglbeongfmaa.PJournalKeeps
