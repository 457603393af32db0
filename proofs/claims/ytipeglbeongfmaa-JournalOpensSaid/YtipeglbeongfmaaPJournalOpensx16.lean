/- Written by a program of this repo: what the program's functions do, each as a Lean function, shown of the loaded code; or a statement's row over that; no condition of its own. -/
import Derived.Test.YtipeglbeongfmaaPJournalOpensx15
namespace Go.Proofs.Ytipeglbeongfmaa.PJournalOpens
open Go Go.RowKit Go.Proofs.YtipeglbeongfmaaV
set_option linter.unusedVariables false
set_option linter.unusedSimpArgs false
set_option maxHeartbeats 4000000
set_option maxRecDepth 100000

theorem disk_Crash.ok (k : Nat) (l0_0 : List ByteArray) (l0_1 : List S55) (a1 : Int) (a2 : Int) (v0_0 : Value) (v0_1 : Value) (r1 : List ByteArray) (r2 : List S55) (r3 : Int) (h : disk_Crash.f k l0_0 l0_1 a1 a2 = some (r1, r2, r3)) :
    VCalls Try.prog 50 [.agg #[v0_0, v0_1], .int .u64 a1, iv a2] [.row v0_0 1 (l0_0.map enc_str), .row v0_1 2 (l0_1.map enc55)] (fun v G own => ∃ w0 w1 : Value, v = .tuple #[.agg #[w0, w1], iv r3] ∧ G = [] ∧ own = [(w0, 9, 1, r1.map enc_str), (w1, 56, 2, r2.map enc55)]) := by
  refine VCalls.introU (fun T => T = 5) Try.func50 rfl (len rfl) fun E hC hW hD hU => ?_
  unfold disk_Crash.f at h
  refine sr <| sG (o_box rfl (.agg (.f 0 rfl (.f 1 rfl .nil)))) fun g26074 => sG (o_alloc Z25 ZL25) fun g26075 => vs rfl <| ds <| sr <| va (op_load 1 2 rfl rfl TI25 rfl (fun h => absurd h (by decide))) <| ?_
  replace h := bd h
  obtain ⟨t26087, hA26088, h⟩ := h
  refine sC (o_call0 FO23 (disk_Right.ok k l0_0 l0_1 v0_0 v0_1 t26087 hA26088) rfl rfl (ltn rfl) (All_of (.cons (mG 0 rfl) (.cons (mG 1 rfl) .nil)))) <| ?_
  rintro _ _ _ ⟨rfl, rfl, rfl⟩
  replace h := iC h
  rcases h with ⟨c26089, h⟩ | ⟨c26089, h⟩
  · obtain rfl := c26089
    refine va (op_not rfl rfl) <| dt <| cf <| sk <| sr <| va (op_fieldAddr FI25_0 rfl (add_at _ _ _)) <| va (op_load 1 1 rfl rfl TI22 rfl (by decide)) <| ?_
    replace h := bd h
    obtain ⟨r26090, hA26091, h⟩ := h
    refine sC (o_call_b0 FO73 (slices_Clone_string_string.ok l0_0 v0_0 r26090 hA26091) rfl rfl (ltn rfl) (All_of (.cons (.inl (mG 0 rfl)) .nil)) (by rintro _ _ _ ⟨_, rfl, rfl, rfl⟩; rfl)) <| ?_
    rintro v26093 _ _ ⟨_, rfl, rfl, rfl⟩
    refine vs rfl <| nx <| vs rfl <| dt <| VC.join3 (fun (v26497 : Value) (l26498 : List ByteArray) (i26499 : Int) => ⟨77, [(2, iv a2), (3, pt g26074 0), (6, pt g26075 0), (7, iv 0), (8, v26497), (9, iv i26499)], [.row v0_0 1 (l0_0.map enc_str), .row v0_1 2 (l0_1.map enc55)], [(g26075, 25, [sn, sn]), (g26074, 25, [v0_0, v0_1])], [(v26497, 9, 1, l26498.map enc_str)]⟩) (fun (v26497 : Value) (l26498 : List ByteArray) (i26499 : Int) => disk_Crash.j2 k a2 l0_1 l26498 i26499 = some (r1, r2, r3)) ?_ ?_
    · refine sr <| va (op_fieldAddr FI25_1 rfl (add_at _ _ _)) <| va (op_load 1 1 rfl rfl TI23 rfl (by decide)) <| va (op_len (m := l0_1.length) 1 lenm Try.underlying23 rfl rfl) <| vm rfl <| dt <| VC.block <|
       VC.loop4 (fun (v26434 : Value) (l26435 : List ByteArray) (i26436 : Int) (i26437 : Int) => ⟨77, [(1, .int .u64 a1), (2, iv a2), (3, pt g26074 0), (6, pt g26075 0), (7, iv 0), (8, v26434), (9, iv i26436), (22, v0_1), (23, iv (l0_1.length : Int)), (24, iv i26437)], [.row v0_1 2 (l0_1.map enc55), .row v0_0 1 (l0_0.map enc_str)], [(g26075, 25, [sn, sn]), (g26074, 25, [v0_0, v0_1])], [(v26434, 9, 1, l26435.map enc_str)]⟩) (fun (ml3 : Nat) (v26434 : Value) (l26435 : List ByteArray) (i26436 : Int) (i26437 : Int) => disk_Crash.l3 k a1 a2 l0_1 ml3 l26435 i26436 i26437 = some (r1, r2, r3)) k v26093 r26090 (-1) 0 [0, 1] [0] h ⟨rfl, ⟨rfl, rfl, rfl, rfl, rfl, rfl, rfl, rfl, rfl, rfl, trivial⟩, ⟨⟨1, rfl⟩, ⟨0, rfl⟩, trivial⟩, rfl, by decide, rfl, by decide⟩ (by intros; simp [disk_Crash.l3]) <|
       ?_
      clear h
      intro ml3 ihl3 v26434 l26435 i26436 i26437 h
      simp only [disk_Crash.l3] at h
      refine sr <| VL.letter (decide (i26437 < (l0_1.length : Int))) fun b26467 hb26467 => va (op_cmp rfl rfl (congrArg some hb26467)) <| ds <| ?_
      replace h := iC h
      rcases h with ⟨c26469, h⟩ | ⟨c26469, h⟩
      · cases lT c26469 hb26467
        refine ct <| sk <| sq <| VC.block <| sr <| vm rfl <| ?_
        replace h := iN h
        obtain ⟨c26483, h⟩ := h
        replace h := bd h
        obtain ⟨x26484, hx26484, h⟩ := h
        refine VL.open (m := l0_1.length) 0 lenm rfl (pos_get hx26484) <| ?_
        rintro ad26485 n26486 rfl
        refine va (op_indexAddr Try.underlying23 TI56 rfl rfl c26483 (lt_get c26483 hx26484) rfl) <| va (op_load_row (sz := 2) (o := 0) 0 i26437.toNat 2 rfl rfl (get_map hx26484) TI56 rfl (fun h => absurd h (by decide))) <| sG (o_alloc Z56 ZL56) fun g26487 => vs rfl <|
         s1 (o_store 0 2 rfl rfl rfl TI56 (.agg (.of rfl)) rfl (len rfl)) <| nx <| vm rfl <| vm rfl <| va (op_shr rfl rfl c26483 rfl) <| va (op_bits rfl rfl rfl) <|
         VL.letter (((Go.bits .and .u64 (a1.fdiv (2 ^ min i26437.toNat IntKind.u64.bits)) 1) == 1)) fun b26488 hb26488 => va (op_cmp rfl rfl (congrArg some hb26488)) <| dt <| ?_
        replace h := iC h
        rcases h with ⟨c26489, h⟩ | ⟨c26489, h⟩
        · obtain rfl : b26488 = true := hb26488.symm.trans (beq_iff_eq.2 c26489)
          refine ct <| rg <| vm rfl <| va (op_fieldAddr FI56_0 rfl (add_at _ _ _)) <| va (op_load 0 1 rfl rfl TI3 rfl (by decide)) <| va (op_fieldAddr FI56_1 rfl (add_at _ _ _)) <| va (op_load 0 1 rfl rfl TI9 rfl (by decide)) <| ?_
          replace h := iN h
          obtain ⟨c26490, h⟩ := h
          replace h := bd h
          obtain ⟨x26491, hx26491, h⟩ := h
          refine VL.openR (m := l26435.length) 0 lenm rfl (pos_get hx26491) <| ?_
          rintro g26492 n26493 rfl
          refine va (op_indexAddr Try.underlying22 TI9 rfl rfl c26490 (lt_get c26490 hx26491) (add_zero_at _ _)) <|
           s1 (o_store_own (sz := 1) (o := 0) (es3 := List.map enc_str (l26435.set x26484.f0.toNat x26484.f1)) 0 x26484.f0.toNat 1 lenm (setm rfl) rfl rfl rfl (get_map hx26491) TI9 (.c rfl) rfl (len rfl)) <| dn <| VN.block <| tr <| va (op_ari64 rfl rfl rfl) <| vm rfl <| dn <|
           VN.again [1, 2] [0] (ihl3 (.slice (some ⟨g26492, 0, none⟩) l26435.length n26493) (l26435.set x26484.f0.toNat x26484.f1) i26436 (wrap64 (i26437 + 1)) h)
        obtain rfl : b26488 = false := hb26488.symm.trans (beq_eq_false_iff_ne.2 c26489)
        refine cf <| rg <| vm rfl <| vs rfl <| dn <| VN.block <| tr <| va (op_ari64 rfl rfl rfl) <| vm rfl <| dn <| VN.again [1, 2] [0] (ihl3 v26434 l26435 i26437 (wrap64 (i26437 + 1)) h)
      cases lF c26469 hb26467
      refine cf <| VC.exit <| VX.then <| VX.then <| VX.hit <| VN.meet3 v26434 l26435 i26436 [0, 1] [0] h
    clear h
    intro v26497 l26498 i26499 h
    unfold disk_Crash.j2 at h
    refine sq <| sr <| vm rfl <| VL.letter (decide (i26499 ≥ 0)) fun b26535 hb26535 => va (op_cmp rfl rfl (congrArg some hb26535)) <| vm rfl <| ?_
    replace h := iC h
    rcases h with ⟨c26536, h⟩ | ⟨c26536, h⟩
    · cases lT c26536 hb26535
      refine vm rfl <| VL.letter (decide (a2 ≥ 1)) fun b26537 hb26537 => va (op_cmp rfl rfl (congrArg some hb26537)) <| va (op_pick rfl rfl) <| vm rfl <| ?_
      replace h := iC h
      rcases h with ⟨c26538, h⟩ | ⟨c26538, h⟩
      · cases lT c26538 hb26537
        refine vm rfl <| VL.letter (decide (a2 < 64)) fun b26539 hb26539 => va (op_cmp rfl rfl (congrArg some hb26539)) <| va (op_pick rfl rfl) <| dt <| ?_
        replace h := iC h
        rcases h with ⟨c26540, h⟩ | ⟨c26540, h⟩
        · cases lT c26540 hb26539
          refine ct <| sr <| va (op_fieldAddr FI25_1 rfl (add_at _ _ _)) <| va (op_load 1 1 rfl rfl TI23 rfl (by decide)) <| vm rfl <| ?_
          replace h := iN h
          obtain ⟨c26541, h⟩ := h
          replace h := bd h
          obtain ⟨x26542, hx26542, h⟩ := h
          refine VL.open (m := l0_1.length) 1 lenm rfl (pos_get hx26542) <| ?_
          rintro ad26543 n26544 rfl
          refine va (op_indexAddr Try.underlying23 TI56 rfl rfl c26541 (lt_get c26541 hx26542) rfl) <| va (op_load_row (sz := 2) (o := 0) 1 i26499.toNat 2 rfl rfl (get_map hx26542) TI56 rfl (fun h => absurd h (by decide))) <|
           sG (o_alloc Z56 ZL56) fun g26545 => s1 (o_store 0 2 rfl rfl rfl TI56 (.agg (.of rfl)) rfl (len rfl)) <| nx <| vm rfl <| va (op_fieldAddr FI56_0 rfl (add_at _ _ _)) <| va (op_load 0 1 rfl rfl TI3 rfl (by decide)) <| ?_
          replace h := iN h
          obtain ⟨c26546, h⟩ := h
          replace h := bd h
          obtain ⟨x26547, hx26547, h⟩ := h
          refine VL.openR (m := l26498.length) 0 lenm rfl (pos_get hx26547) <| ?_
          rintro g26548 n26549 rfl
          refine va (op_indexAddr Try.underlying22 TI9 rfl rfl c26546 (lt_get c26546 hx26547) (add_zero_at _ _)) <| va (op_load_own (sz := 1) (o := 0) 0 x26542.f0.toNat 1 rfl rfl (get_map hx26547) TI9 rfl (by decide)) <|
           o_strBytesB Try.underlying9 Try.underlying41 Try.underlying5 (by rw [hU]) rfl (ltn rfl) rfl fun g26550 n26551 z26552 => vs rfl <| nx <| vm rfl <| va (op_fieldAddr FI56_1 rfl (add_at _ _ _)) <| va (op_load 1 1 rfl rfl TI9 rfl (by decide)) <| vm rfl <| ?_
          replace h := iN h
          obtain ⟨c26553, h⟩ := h
          replace h := iN h
          obtain ⟨c26554, h⟩ := h
          refine va (op_sliceS 0 a2.toNat Try.underlying9 rfl ⟨rfl, ⟨_, _, rfl, c26553, rfl⟩, Nat.zero_le _, tN (a := a2) (b := (x26542.f1.size : Int)) rfl rfl c26554⟩ rfl) <| ?_
          replace h := iN h
          obtain ⟨c26555, h⟩ := h
          refine s1 (o_copyS 0 Try.underlying41 TI5 rfl rfl rfl c26555 rfl) <| dr <| vm rfl <| va (op_fieldAddr FI56_0 rfl (add_at _ _ _)) <| va (op_load 1 1 rfl rfl TI3 rfl (by decide)) <| vm rfl <| ?_
          replace h := iN h
          obtain ⟨c26556, h⟩ := h
          refine va (op_bytesStrB 0 Try.underlying41 Try.underlying9 Try.underlying5 rfl rfl c26556) <| ?_
          replace h := bd h
          obtain ⟨x26557, hx26557, h⟩ := h
          refine va (op_indexAddr Try.underlying22 TI9 rfl rfl c26546 (lt_get c26546 hx26557) (add_zero_at _ _)) <|
           s1 (o_store_own (sz := 1) (o := 0) (es3 := List.map enc_str (l26498.set x26542.f0.toNat (strOfNums ((byI (x26542.f1.extract 0 a2.toNat)).take (min (x26542.f1.extract 0 a2.toNat).size x26547.size) ++ (byI x26547).drop (min (x26542.f1.extract 0 a2.toNat).size x26547.size))))) 0 x26542.f0.toNat 1 lenm (setm rfl) rfl rfl rfl (get_map hx26557) TI9 (.c rfl) rfl (len rfl)) <|
           nx <| vm rfl <| va (op_build (vals := [(0, (.slice (some ⟨g26548, 0, none⟩) l26498.length n26549))]) (vcs := [(0, [(.slice (some ⟨g26548, 0, none⟩) l26498.length n26549)])]) (cells := [(.slice (some ⟨g26548, 0, none⟩) l26498.length n26549), sn]) SI25 rfl (.cons ⟨rfl, (.r 0 rfl)⟩ .nil) (by kernel_rfl)) <|
           s1 (o_store 2 2 rfl rfl rfl TI25 (.agg (.r 0 rfl (.c rfl .nil))) rfl (len rfl)) <| vs rfl <| dt <| VC.ret <| ?_
          simp only [Option.some.injEq, Prod.mk.injEq] at h
          obtain ⟨rfl, rfl, rfl⟩ := h
          exact VR.nilRow' 56 2 <| rf [.cell 6 25, .tmp 7] [1, 0] (.cell 2 rfl rfl TI25 (fun h => absurd h (by decide)) (.tmp rfl .nil)) ⟨(.slice (some ⟨g26548, 0, none⟩) l26498.length n26549), sn, rfl, rfl, rfl⟩
        cases lF c26540 hb26539
        refine cf <| sk <| sr <| vm rfl <| va (op_build (vals := [(0, v26497)]) (vcs := [(0, [v26497])]) (cells := [v26497, sn]) SI25 rfl (.cons ⟨rfl, (.r 0 rfl)⟩ .nil) (by kernel_rfl)) <| s1 (o_store 0 2 rfl rfl rfl TI25 (.agg (.r 0 rfl (.c rfl .nil))) rfl (len rfl)) <| vs rfl <| dt <|
         VC.ret <| ?_
        simp only [Option.some.injEq, Prod.mk.injEq] at h
        obtain ⟨rfl, rfl, rfl⟩ := h
        exact VR.nilRow' 56 2 <| rf [.cell 6 25, .tmp 7] [1, 0] (.cell 0 rfl rfl TI25 (fun h => absurd h (by decide)) (.tmp rfl .nil)) ⟨v26497, sn, rfl, rfl, rfl⟩
      cases lF c26538 hb26537
      refine un rfl <| un rfl <| va (op_pick rfl rfl) <| dt <| cf <| sk <| sr <| vm rfl <| va (op_build (vals := [(0, v26497)]) (vcs := [(0, [v26497])]) (cells := [v26497, sn]) SI25 rfl (.cons ⟨rfl, (.r 0 rfl)⟩ .nil) (by kernel_rfl)) <|
       s1 (o_store 0 2 rfl rfl rfl TI25 (.agg (.r 0 rfl (.c rfl .nil))) rfl (len rfl)) <| vs rfl <| dt <| VC.ret <| ?_
      simp only [Option.some.injEq, Prod.mk.injEq] at h
      obtain ⟨rfl, rfl, rfl⟩ := h
      exact VR.nilRow' 56 2 <| rf [.cell 6 25, .tmp 7] [1, 0] (.cell 0 rfl rfl TI25 (fun h => absurd h (by decide)) (.tmp rfl .nil)) ⟨v26497, sn, rfl, rfl, rfl⟩
    cases lF c26536 hb26535
    refine un rfl <| un rfl <| va (op_pick rfl rfl) <| vm rfl <| un rfl <| un rfl <| va (op_pick rfl rfl) <| dt <| cf <| sk <| sr <| vm rfl <| va (op_build (vals := [(0, v26497)]) (vcs := [(0, [v26497])]) (cells := [v26497, sn]) SI25 rfl (.cons ⟨rfl, (.r 0 rfl)⟩ .nil) (by kernel_rfl)) <|
     s1 (o_store 0 2 rfl rfl rfl TI25 (.agg (.r 0 rfl (.c rfl .nil))) rfl (len rfl)) <| vs rfl <| dt <| VC.ret <| ?_
    simp only [Option.some.injEq, Prod.mk.injEq] at h
    obtain ⟨rfl, rfl, rfl⟩ := h
    exact VR.nilRow' 56 2 <| rf [.cell 6 25, .tmp 7] [1, 0] (.cell 0 rfl rfl TI25 (fun h => absurd h (by decide)) (.tmp rfl .nil)) ⟨v26497, sn, rfl, rfl, rfl⟩
  obtain rfl := Bool.eq_false_iff.2 c26089
  refine va (op_not rfl rfl) <| dt <| ct <| sr <| va (op_build (vals := []) (vcs := []) (cells := [sn, sn]) SI25 rfl .nil (by kernel_rfl)) <| s1 (o_store 0 2 rfl rfl rfl TI25 (.agg (.of rfl)) rfl (len rfl)) <| vs rfl <| dt <| VC.ret <| VR.then <| ?_
  simp only [Option.some.injEq, Prod.mk.injEq] at h
  obtain ⟨rfl, rfl, rfl⟩ := h
  exact VR.nilRow' 9 1 <| VR.nilRow' 56 2 <| rf [.cell 6 25, .tmp 7] [1, 0] (.cell 0 rfl rfl TI25 (fun h => absurd h (by decide)) (.tmp rfl .nil)) ⟨sn, sn, rfl, rfl, rfl⟩

theorem disk_Flush.ok (k : Nat) (l0_0 : List ByteArray) (l0_1 : List S55) (v0_0 : Value) (v0_1 : Value) (r1 : List ByteArray) (r2 : List S55) (r3 : Int) (h : disk_Flush.f k l0_0 l0_1 = some (r1, r2, r3)) :
    VCalls Try.prog 41 [.agg #[v0_0, v0_1]] [.row v0_0 1 (l0_0.map enc_str), .row v0_1 2 (l0_1.map enc55)] (fun v G own => ∃ w0 w1 : Value, v = .tuple #[.agg #[w0, w1], iv r3] ∧ G = [] ∧ own = [(w0, 9, 1, r1.map enc_str), (w1, 56, 2, r2.map enc55)]) := by
  refine VCalls.intro Try.func41 rfl (len rfl) fun E hC hW hD hU => ?_
  unfold disk_Flush.f at h
  refine sr <| sG (o_box rfl (.agg (.f 0 rfl (.f 1 rfl .nil)))) fun g26070 => sG (o_alloc Z25 ZL25) fun g26071 => vs rfl <| nx <| va (op_load 1 2 rfl rfl TI25 rfl (fun h => absurd h (by decide))) <| ?_
  replace h := bd h
  obtain ⟨⟨r26566, r26567, t26568⟩, hA26569, h⟩ := h
  dsimp only at h
  refine sC (o_call0 FO50 (disk_Crash.ok k l0_0 l0_1 18446744073709551615 0 v0_0 v0_1 r26566 r26567 t26568 hA26569) rfl rfl (ltn rfl) (All_of (.cons (mG 0 rfl) (.cons (mG 1 rfl) .nil)))) <| ?_
  rintro _ _ _ ⟨v26571, v26573, rfl, rfl, rfl⟩
  refine va (op_extract rfl rfl) <| va (op_extract rfl rfl) <| s1 (o_store 0 2 rfl rfl rfl TI25 (.agg (.r 0 rfl (.r 1 rfl .nil))) rfl (len rfl)) <| vs rfl <| dt <| VC.ret <| ?_
  simp only [Option.some.injEq, Prod.mk.injEq] at h
  obtain ⟨rfl, rfl, rfl⟩ := h
  exact rf [.cell 2 25, .tmp 3] [0, 1] (.cell 0 rfl rfl TI25 (fun h => absurd h (by decide)) (.tmp rfl .nil)) ⟨v26571, v26573, rfl, rfl, rfl⟩

theorem journal_Format.ok (k : Nat) (a0 : Int)  (r1 : List ByteArray) (r2 : List S55) (r3 : Int) (r4 : Int) (r5 : Int) (r6 : List ByteArray) (r7 : List ByteArray) (r8 : Int) (h : journal_Format.f k a0 = some (r1, r2, r3, r4, r5, r6, r7, r8)) :
    VCalls Try.prog 15 [iv a0] [] (fun v G own => ∃ w0 w1 w5 w6 : Value, v = .tuple #[.agg #[w0, w1, iv r3, iv r4, iv r5, w5, w6], iv r8] ∧ G = [.row w0 1 (r1.map enc_str), .row w1 2 (r2.map enc55)] ∧ own = [(w5, 9, 1, r6.map enc_str), (w6, 9, 1, r7.map enc_str)]) := by
  refine VCalls.intro Try.func15 rfl (len rfl) fun E hC hW hD hU => ?_
  unfold journal_Format.f at h
  refine sr <| sG (o_alloc Z27 ZL27) fun g26599 => vs rfl <| ds <| sr <| vm rfl <| VL.letter (decide (a0 < 8)) fun b26606 hb26606 => va (op_cmp rfl rfl (congrArg some hb26606)) <| dt <| ?_
  replace h := iC h
  rcases h with ⟨c26607, h⟩ | ⟨c26607, h⟩
  · cases lT c26607 hb26606
    refine ct <| sr <| va (op_build (vals := []) (vcs := []) (cells := [sn, sn, iv 0, iv 0, iv 0, sn, sn]) SI27 rfl .nil (by kernel_rfl)) <| s1 (o_store 0 7 rfl rfl rfl TI27 (.agg (.of rfl)) rfl (len rfl)) <| vs rfl <| dt <|
     VC.ret <| VR.then <| ?_
    simp only [Option.some.injEq, Prod.mk.injEq] at h
    obtain ⟨rfl, rfl, rfl, rfl, rfl, rfl, rfl, rfl⟩ := h
    exact VR.nilFact' 1 <| VR.nilFact' 2 <| VR.nilRow' 9 1 <| VR.nilRow' 9 1 <| rf [.cell 2 27, .tmp 3] [1, 0] (.cell 0 rfl rfl TI27 (fun h => absurd h (by decide)) (.tmp rfl .nil)) ⟨sn, sn, sn, sn, rfl, rfl, rfl⟩
  cases lF c26607 hb26606
  refine cf <| sk <| sr <| vm rfl <| ?_
  replace h := bd h
  obtain ⟨⟨r26612, r26613, t26614⟩, hA26615, h⟩ := h
  dsimp only at h
  refine sC (o_call0 FO37 (disk_New.ok a0 r26612 r26613 t26614 hA26615) rfl rfl (ltn rfl) (All_of .nil)) <| ?_
  rintro _ _ _ ⟨v26617, v26619, rfl, rfl, rfl⟩
  refine vm rfl <| va (op_extract rfl rfl) <| va (op_extract rfl rfl) <| sG (o_alloc Z25 ZL25) fun g26620 => s1 (o_store 0 2 rfl rfl rfl TI25 (.agg (.r 0 rfl (.r 1 rfl .nil))) rfl (len rfl)) <| vs rfl <| ds <| sr <| vm rfl <|
   VL.letter ((t26614 != 0)) fun b26627 hb26627 => va (op_cmp rfl rfl (congrArg some hb26627)) <| dt <| ?_
  replace h := iC h
  rcases h with ⟨c26628, h⟩ | ⟨c26628, h⟩
  · obtain rfl : b26627 = false := hb26627.symm.trans (bne_eq_false_iff_eq.2 c26628)
    refine cf <| sk <| ?_
    replace h := bd h
    obtain ⟨r26629, hA26630, h⟩ := h
    replace h := bd h
    obtain ⟨t26631, hA26632, h⟩ := h
    replace h := bd h
    obtain ⟨⟨r26633, r26634, t26635⟩, hA26636, h⟩ := h
    dsimp only at h
    refine VC.freezeRow' 0 rfl <| VC.freezeRow' 0 rfl <|
     VC.join2 (fun (v26638 : Value) (v26640 : Value) => ⟨34, [(2, pt g26599 0), (3, iv 0), (4, pt g26620 0)], [.row v26638 1 (r26633.map enc_str), .row v26640 2 (r26634.map enc55)], [(g26620, 25, [v26638, v26640]), (g26599, 27, [sn, sn, iv 0, iv 0, iv 0, sn, sn])], []⟩) (fun (v26638 : Value) (v26640 : Value) => True) ?_ ?_
    · refine VC.drawB ⟨0, [], [], [], []⟩ [7] ⟨0, [], [], [(g26620, 25, [v26617, v26619])], []⟩ (by kernel_rfl) rfl (by kernel_rfl) (n := 8) (listed := LB 8 0) <|
       VB.vb (i := 0) (listed' := LB 8 1) rfl (op_load 0 2 rfl rfl TI25 rfl (fun h => absurd h (by decide))) rfl (by kernel_rfl) (by kernel_rfl) (by kernel_rfl) (by kernel_rfl) (by kernel_rfl) (by kernel_rfl) (PartP.on ⟨trivial, trivial, trivial⟩ ⟨trivial, ⟨⟨0, rfl⟩, trivial⟩, trivial⟩) (fun _ _ _ h => h) <|
       VB.oneC (i := 1) (listed' := LB 8 3) (by kernel_rfl) rfl (o_call0 FO39 (journal_headOf.ok k 1 0 0 r26629 hA26630) rfl rfl (ltn rfl) (All_of .nil)) rfl (by kernel_rfl) <| ?_
      rintro _ _ _ ⟨rfl, rfl, rfl⟩
      refine ⟨(PartP.on ⟨trivial, trivial, trivial⟩ ⟨trivial, ⟨⟨0, rfl⟩, trivial⟩, trivial⟩), ?_⟩
      refine VB.oneC (i := 2) (listed' := LB 8 7) (by kernel_rfl) rfl (o_call0 FO40 (journal_head_sector.ok r26629 t26631 hA26632) rfl rfl (ltn rfl) (All_of .nil)) rfl (by kernel_rfl) <| ?_
      rintro _ _ _ ⟨rfl, rfl, rfl⟩
      refine ⟨(PartP.on ⟨trivial, trivial, trivial⟩ ⟨trivial, ⟨⟨0, rfl⟩, trivial⟩, trivial⟩), ?_⟩
      refine VB.oneC (i := 3) (listed' := LB 8 15) (by kernel_rfl) rfl (o_call0 FO38 (disk_Put.ok k r26612 r26613 1 t26631 v26617 v26619 r26633 r26634 t26635 hA26636) rfl rfl (ltn rfl) (All_of (.cons (mG 1 rfl) (.cons (mG 0 rfl) .nil)))) rfl (by kernel_rfl) <| ?_
      rintro _ _ _ ⟨v26638, v26640, rfl, rfl, rfl⟩
      refine ⟨(PartP.on ⟨trivial, trivial, trivial⟩ ⟨trivial, ⟨⟨0, rfl⟩, trivial⟩, trivial⟩), ?_⟩
      exact VB.more ⟨0, [], [.row v26638 1 (r26633.map enc_str), .row v26640 2 (r26634.map enc55)], [], []⟩ ⟨trivial, trivial, trivial⟩ <| bv 4 31 rfl (mv rfl) <| bv 5 63 rfl (op_extract rfl rfl) <| bv 6 127 rfl (op_extract rfl rfl) <|
       VB.one1 (i := 7) (listed' := LB 8 255) (by kernel_rfl) rfl (o_store 0 2 rfl rfl rfl TI25 (.agg (.f 0 rfl (.f 1 rfl .nil))) rfl (len rfl)) rfl (by kernel_rfl) (PartP.off (by kernel_rfl) ⟨⟨⟨0, rfl⟩, ⟨1, rfl⟩, trivial⟩, trivial, trivial⟩) <| VB.done (by kernel_rfl) <|
       VN.meet2 v26638 v26640 [0, 1] [] trivial
    intro v26638 v26640 _
    refine sr <| va (op_load 0 2 rfl rfl TI25 rfl (fun h => absurd h (by decide))) <| ?_
    replace h := bd h
    obtain ⟨⟨r26641, r26642, t26643⟩, hA26644, h⟩ := h
    dsimp only at h
    refine sC (o_call0 FO41 (disk_Flush.ok k r26633 r26634 v26638 v26640 r26641 r26642 t26643 hA26644) rfl rfl (ltn rfl) (All_of (.cons (mG 0 rfl) (.cons (mG 1 rfl) .nil)))) <| ?_
    rintro _ _ _ ⟨v26646, v26648, rfl, rfl, rfl⟩
    refine vm rfl <| va (op_extract rfl rfl) <| va (op_extract rfl rfl) <| s1 (o_store 0 2 rfl rfl rfl TI25 (.agg (.r 0 rfl (.r 1 rfl .nil))) rfl (len rfl)) <| nx <| va (op_load 0 2 rfl rfl TI25 rfl (fun h => absurd h (by decide))) <| VL.freezeRow' 0 rfl <| VL.freezeRow' 0 rfl <| ?_
    replace h := bd h
    obtain ⟨⟨r26649, r26650, t26651, t26652, t26653, r26654, r26655, t26656⟩, hA26657, h⟩ := h
    dsimp only at h
    refine sC (o_call0 FO9 (journal_Open.ok k r26641 r26642 v26646 v26648 r26649 r26650 t26651 t26652 t26653 r26654 r26655 t26656 hA26657) rfl rfl (ltn rfl) (All_of (.cons (mG 1 rfl) (.cons (mG 0 rfl) .nil)))) <| ?_
    rintro _ _ _ ⟨v26659, v26661, v26663, v26665, rfl, rfl, rfl⟩
    refine va (op_extract rfl rfl) <| va (op_extract rfl rfl) <| s1 (o_store 1 7 rfl rfl rfl TI27 (.agg (.f 0 rfl (.f 1 rfl (.c rfl (.c rfl (.c rfl (.r 0 rfl (.r 1 rfl .nil)))))))) rfl (len rfl)) <| vs rfl <| dt <| VC.ret <| ?_
    simp only [Option.some.injEq, Prod.mk.injEq] at h
    obtain ⟨rfl, rfl, rfl, rfl, rfl, rfl, rfl, rfl⟩ := h
    exact rf [.cell 2 27, .tmp 3] [0, 1] (.cell 1 rfl rfl TI27 (fun h => absurd h (by decide)) (.tmp rfl .nil)) ⟨v26659, v26661, v26663, v26665, rfl, rfl, rfl⟩
  obtain rfl : b26627 = true := hb26627.symm.trans (bne_iff_ne.2 c26628)
  refine ct <| sr <| va (op_build (vals := []) (vcs := []) (cells := [sn, sn, iv 0, iv 0, iv 0, sn, sn]) SI27 rfl .nil (by kernel_rfl)) <| vm rfl <| s1 (o_store 1 7 rfl rfl rfl TI27 (.agg (.of rfl)) rfl (len rfl)) <| vs rfl <|
   dt <| VC.ret <| VR.then <| ?_
  simp only [Option.some.injEq, Prod.mk.injEq] at h
  obtain ⟨rfl, rfl, rfl, rfl, rfl, rfl, rfl, rfl⟩ := h
  exact VR.nilFact' 1 <| VR.nilFact' 2 <| VR.nilRow' 9 1 <| VR.nilRow' 9 1 <| rf [.cell 2 27, .tmp 3] [1, 0] (.cell 1 rfl rfl TI27 (fun h => absurd h (by decide)) (.tmp rfl .nil)) ⟨sn, sn, sn, sn, rfl, rfl, rfl⟩

theorem slices_Clip_string_string.ok (l0 : List ByteArray) (v0 : Value) (r1 : List ByteArray) (h : slices_Clip_string_string.f l0 = some r1) :
    VCalls Try.prog 43 [v0] [.row v0 1 (l0.map enc_str)] (fun v G own => ∃ A : Option Addr, v = .slice A r1.length r1.length ∧ G = [.row (.slice A r1.length r1.length) 1 (r1.map enc_str)] ∧ own = []) := by
  obtain rfl := Option.some.inj h
  clear h
  refine VCalls.intro Try.func43 rfl (len rfl) fun E hC hW hD hU => ?_
  refine VC.seq (VC.region ?_)
  refine VL.va (op_assign rfl (ltn rfl)) rfl ?_
  refine VL.done (VN.then ?_)
  refine VC.seq (VC.region ?_)
  refine VL.va (op_move rfl (ltn rfl)) rfl ?_
  refine VL.va (op_move rfl (ltn rfl)) rfl ?_
  refine VL.va (op_len (m := l0.length) 0 lenm Try.underlying22 rfl rfl (ltn rfl)) rfl ?_
  refine VL.va (op_move rfl (ltn rfl)) rfl ?_
  refine VL.va (op_len (m := l0.length) 0 lenm Try.underlying22 rfl rfl (ltn rfl)) rfl ?_
  refine VL.sG (o_clip (m := l0.length) 0 lenm Try.underlying22 TI9 rfl rfl rfl rfl (ltn rfl)) rfl ?_
  intro A
  refine VL.va (op_assign rfl (ltn rfl)) rfl ?_
  refine VL.done (VN.then ?_)
  refine VC.ret ?_
  exact VR.fn (rs := [.tmp 2]) [.row (.slice A l0.length l0.length) 1 (l0.map enc_str)] [] [] rfl (.tmp rfl .nil) ⟨_, rfl, rfl, rfl⟩ ⟨⟨0, rfl⟩, trivial⟩ rfl (by decide)

theorem journal_Append.ok (k : Nat) (l0_0 : List ByteArray) (l0_1 : List S55) (a0_2 : Int) (a0_3 : Int) (a0_4 : Int) (l0_5 : List ByteArray) (l0_6 : List ByteArray) (a1 : ByteArray) (v0_0 : Value) (v0_1 : Value) (v0_5 : Value) (v0_6 : Value) (r1 : List ByteArray) (r2 : List S55) (r3 : Int) (r4 : Int) (r5 : Int) (r6 : List ByteArray) (r7 : List ByteArray) (r8 : Int) (h : journal_Append.f k l0_0 l0_1 a0_2 a0_3 a0_4 l0_5 l0_6 a1 = some (r1, r2, r3, r4, r5, r6, r7, r8)) :
    VCalls Try.prog 18 [.agg #[v0_0, v0_1, iv a0_2, iv a0_3, iv a0_4, v0_5, v0_6], .string a1] [.row v0_0 1 (l0_0.map enc_str), .row v0_1 2 (l0_1.map enc55), .row v0_5 1 (l0_5.map enc_str), .row v0_6 1 (l0_6.map enc_str)] (fun v G own => ∃ w0 w1 w5 w6 : Value, v = .tuple #[.agg #[w0, w1, iv r3, iv r4, iv r5, w5, w6], iv r8] ∧ G = [.row w0 1 (r1.map enc_str), .row w1 2 (r2.map enc55), .row w5 1 (r6.map enc_str), .row w6 1 (r7.map enc_str)] ∧ own = []) := by
  refine VCalls.intro Try.func18 rfl (len rfl) fun E hC hW hD hU => ?_
  unfold journal_Append.f at h
  refine sr <| sG (o_box rfl (.agg (.f 0 rfl (.f 1 rfl (.c rfl (.c rfl (.c rfl (.f 2 rfl (.f 3 rfl .nil))))))))) fun g26735 => sG (o_alloc Z27 ZL27) fun g26736 => vs rfl <| ds <| sr <| va (op_load 1 7 rfl rfl TI27 rfl (fun h => absurd h (by decide))) <| ?_
  replace h := bd h
  obtain ⟨t26750, hA26751, h⟩ := h
  refine sC (o_call0 FO12 (journal_Right.ok k l0_0 l0_1 a0_2 a0_3 a0_4 l0_5 l0_6 v0_0 v0_1 v0_5 v0_6 t26750 hA26751) rfl rfl (ltn rfl) (All_of (.cons (mG 0 rfl) (.cons (mG 1 rfl) (.cons (mG 2 rfl) (.cons (mG 3 rfl) .nil)))))) <| ?_
  rintro _ _ _ ⟨rfl, rfl, rfl⟩
  replace h := iC h
  rcases h with ⟨c26752, h⟩ | ⟨c26752, h⟩
  · obtain rfl := c26752
    refine va (op_not rfl rfl) <| dt <| cf <| sk <| sr <| va (op_fieldAddr FI27_4 rfl (add_at _ _ _)) <| va (op_load 1 1 rfl rfl TI22 rfl (by decide)) <| ?_
    replace h := bd h
    obtain ⟨r26753, hA26754, h⟩ := h
    refine sC (o_call0 FO43 (slices_Clip_string_string.ok l0_5 v0_5 r26753 hA26754) rfl rfl (ltn rfl) (All_of (.cons (mG 2 rfl) .nil))) <| ?_
    rintro _ _ _ ⟨A26755, rfl, rfl, rfl⟩
    refine vm rfl <| sG (o_buildSlice (vals := [(0, .string a1)]) (cells := #[.string a1]) (es := List.map enc_str ([a1] : List ByteArray)) Try.underlying22 TI9 Z9 rfl (by decide) (by decide) (by kernel_rfl) (by kernel_rfl) rfl (flat_map enc_str_ok _)) fun v26758 => ?_
    replace h := iN h
    obtain ⟨c26759, h⟩ := h
    refine sG (o_append_clip 0 appm Try.underlying22 EI9 rfl rfl rfl (.inr ⟨0, _, rfl⟩) (bndm c26759)) fun v26760 => vs rfl <| ds <| sr <| va (op_load 1 7 rfl rfl TI27 rfl (fun h => absurd h (by decide))) <| vm rfl <| ?_
    replace h := bd h
    obtain ⟨t26770, hA26771, h⟩ := h
    refine sC (o_call0 FO35 (journal_waits.ok k l0_0 l0_1 a0_2 a0_3 a0_4 l0_5 l0_6 (r26753 ++ ([a1] : List ByteArray)) v0_0 v0_1 v0_5 v0_6 v26760 t26770 hA26771) rfl rfl (ltn rfl) (All_of (.cons (mG 2 rfl) (.cons (mG 3 rfl) (.cons (mG 4 rfl) (.cons (mG 5 rfl) (.cons (mG 0 rfl) .nil))))))) <| ?_
    rintro _ _ _ ⟨rfl, rfl, rfl⟩
    refine vs rfl <| nx <| vm rfl <| VL.letter ((t26770 != 0)) fun b26772 hb26772 => va (op_cmp rfl rfl (congrArg some hb26772)) <| dt <| ?_
    replace h := iC h
    rcases h with ⟨c26773, h⟩ | ⟨c26773, h⟩
    · obtain rfl : b26772 = false := hb26772.symm.trans (bne_eq_false_iff_eq.2 c26773)
      refine cf <| sk <| sr <| vm rfl <| va (op_fieldAddr FI27_4 rfl (add_at _ _ _)) <| s1 (o_store 1 1 rfl rfl rfl TI22 (.f 0 rfl) rfl (len rfl)) <| nx <| va (op_load 1 7 rfl rfl TI27 rfl (fun h => absurd h (by decide))) <|
       s1 (o_store 0 7 rfl rfl rfl TI27 (.agg (.f 2 rfl (.f 3 rfl (.c rfl (.c rfl (.c rfl (.f 0 rfl (.f 5 rfl .nil)))))))) rfl (len rfl)) <| vs rfl <| dt <| VC.ret <| ?_
      simp only [Option.some.injEq, Prod.mk.injEq] at h
      obtain ⟨rfl, rfl, rfl, rfl, rfl, rfl, rfl, rfl⟩ := h
      exact rf [.cell 4 27, .tmp 5] [] (.cell 0 rfl rfl TI27 (fun h => absurd h (by decide)) (.tmp rfl .nil)) ⟨v0_0, v0_1, v26760, v0_6, rfl, rfl, rfl⟩
    obtain rfl : b26772 = true := hb26772.symm.trans (bne_iff_ne.2 c26773)
    refine ct <| sr <| va (op_build (vals := []) (vcs := []) (cells := [sn, sn, iv 0, iv 0, iv 0, sn, sn]) SI27 rfl .nil (by kernel_rfl)) <| vm rfl <| s1 (o_store 0 7 rfl rfl rfl TI27 (.agg (.of rfl)) rfl (len rfl)) <| vs rfl <|
     dt <| VC.ret <| VR.then <| ?_
    simp only [Option.some.injEq, Prod.mk.injEq] at h
    obtain ⟨rfl, rfl, rfl, rfl, rfl, rfl, rfl, rfl⟩ := h
    exact VR.nilFact' 1 <| VR.nilFact' 2 <| VR.nilFact' 1 <| VR.nilFact' 1 <| rf [.cell 4 27, .tmp 5] [] (.cell 0 rfl rfl TI27 (fun h => absurd h (by decide)) (.tmp rfl .nil)) ⟨sn, sn, sn, sn, rfl, rfl, rfl⟩
  obtain rfl := Bool.eq_false_iff.2 c26752
  refine va (op_not rfl rfl) <| dt <| ct <| sr <| va (op_build (vals := []) (vcs := []) (cells := [sn, sn, iv 0, iv 0, iv 0, sn, sn]) SI27 rfl .nil (by kernel_rfl)) <|
   s1 (o_store 0 7 rfl rfl rfl TI27 (.agg (.of rfl)) rfl (len rfl)) <| vs rfl <| dt <| VC.ret <| VR.then <| ?_
  simp only [Option.some.injEq, Prod.mk.injEq] at h
  obtain ⟨rfl, rfl, rfl, rfl, rfl, rfl, rfl, rfl⟩ := h
  exact VR.nilFact' 1 <| VR.nilFact' 2 <| VR.nilFact' 1 <| VR.nilFact' 1 <| rf [.cell 4 27, .tmp 5] [] (.cell 0 rfl rfl TI27 (fun h => absurd h (by decide)) (.tmp rfl .nil)) ⟨sn, sn, sn, sn, rfl, rfl, rfl⟩

theorem journal_groups.ok (k : Nat) (l0_0 : List ByteArray) (l0_1 : List S55) (a0_2 : Int) (a0_3 : Int) (a0_4 : Int) (l0_5 : List ByteArray) (l0_6 : List ByteArray) (v0_0 : Value) (v0_1 : Value) (v0_5 : Value) (v0_6 : Value) (r1 : Int) (r2 : Int) (r3 : ByteArray) (h : journal_groups.f k l0_0 l0_1 a0_2 a0_3 a0_4 l0_5 l0_6 = some (r1, r2, r3)) :
    VCalls Try.prog 44 [.agg #[v0_0, v0_1, iv a0_2, iv a0_3, iv a0_4, v0_5, v0_6]] [.row v0_0 1 (l0_0.map enc_str), .row v0_1 2 (l0_1.map enc55), .row v0_5 1 (l0_5.map enc_str), .row v0_6 1 (l0_6.map enc_str)] (fun v G own => v = .agg #[iv r1, iv r2, .string r3] ∧ G = [] ∧ own = []) := by
  refine VCalls.intro Try.func44 rfl (len rfl) fun E hC hW hD hU => ?_
  unfold journal_groups.f at h
  refine sr <| sG (o_box rfl (.agg (.f 0 rfl (.f 1 rfl (.c rfl (.c rfl (.c rfl (.f 2 rfl (.f 3 rfl .nil))))))))) fun g26837 => sG (o_alloc Z81 ZL81) fun g26838 => dt <| ?_
  replace h := bd h
  obtain ⟨t26839, hA26840, h⟩ := h
  refine VC.join0 (⟨11, [(2, pt g26838 0)], [], [(g26838, 81, [iv a0_3, iv a0_4, .string t26839])], []⟩) (True) ?_ ?_
  · refine dw ⟨0, [], [], [(g26837, 27, [v0_0, v0_1, iv a0_2, iv a0_3, iv a0_4, v0_5, v0_6])], []⟩ 9 <| av 0 1 rfl (op_fieldAddr FI27_2 rfl (add_at _ _ _)) <| av 1 3 rfl (op_load 0 1 rfl rfl TI3 rfl (by decide)) <| av 2 7 rfl (op_fieldAddr FI27_3 rfl (add_at _ _ _)) <|
     av 3 15 rfl (op_load 0 1 rfl rfl TI3 rfl (by decide)) <| av 4 31 rfl (op_fieldAddr FI27_4 rfl (add_at _ _ _)) <| av 5 63 rfl (op_load 0 1 rfl rfl TI22 rfl (by decide)) <| aC 6 127 rfl (o_call0 FO68 (journal_frames.ok k l0_5 v0_5 t26839 hA26840) rfl rfl (ltn rfl) (All_of (.cons (mG 2 rfl) .nil))) <|
     ?_
    rintro _ _ _ ⟨rfl, rfl, rfl⟩
    refine ⟨⟨trivial, ⟨⟨1, rfl⟩, trivial⟩, trivial⟩, ?_⟩
    exact av 7 255 rfl (op_build (vals := [(0, iv a0_3), (1, iv a0_4), (2, .string t26839)]) (vcs := [(0, [iv a0_3]), (1, [iv a0_4]), (2, [.string t26839])]) (cells := [iv a0_3, iv a0_4, .string t26839]) SI81 rfl (.cons ⟨rfl, (.c rfl)⟩ (.cons ⟨rfl, (.c rfl)⟩ (.cons ⟨rfl, (.c rfl)⟩ .nil))) (by kernel_rfl)) <|
     aO 8 511 rfl (o_store 0 3 rfl rfl rfl TI81 (.agg (.of rfl)) rfl (len rfl)) <| ad <| VN.meet0 [0] [] trivial
  intro _
  refine VC.ret <| ?_
  simp only [Option.some.injEq, Prod.mk.injEq] at h
  obtain ⟨rfl, rfl, rfl⟩ := h
  exact rf [.cell 2 81] [] (.cell 0 rfl rfl TI81 (fun h => absurd h (by decide)) .nil) ⟨rfl, rfl, rfl⟩

theorem slices_Backward_api_Write_api_Write.ok (l0 : List S55) (v0 : Value) (r1 : List S55) (h : slices_Backward_api_Write_api_Write.f l0 = some r1) :
    VCalls Try.prog 98 [v0] [.row v0 2 (l0.map enc55)] (fun v G own => ∃ w0 : Value, ∃ p0 : Nat, v = .func (.func 101) #[] #[pt p0 0] ∧ G = [.row w0 2 (r1.map enc55), .at_ ⟨p0, 0, none⟩ [w0]] ∧ own = []) := by
  refine VCalls.intro Try.func98 rfl (len rfl) fun E hC hW hD hU => ?_
  unfold slices_Backward_api_Write_api_Write.f at h
  refine sr <| sG (o_box rfl (.f 0 rfl)) fun g26911 => vs rfl <| nx <| va (op_makeFunc (vals := [pt g26911 0]) rfl) <| vs rfl <| dt <| VC.ret <| ?_
  obtain rfl := Option.some.inj h
  exact VR.freeze' 0 rfl <| rf [.tmp 2] [] (.tmp rfl .nil) ⟨v0, g26911, rfl, rfl, rfl⟩

end Go.Proofs.Ytipeglbeongfmaa.PJournalOpens
