/- Written by a program of this repo: what the program's functions do, each as a Lean function, shown of the loaded code; or a statement's row over that; no condition of its own. -/
import Derived.Test.YtipeglbeongfmaaPJournalLivesx10
namespace Go.Proofs.Ytipeglbeongfmaa.PJournalLives
open Go Go.RowKit Go.Proofs.YtipeglbeongfmaaV
set_option linter.unusedVariables false
set_option linter.unusedSimpArgs false
set_option maxHeartbeats 4000000
set_option maxRecDepth 100000

theorem journal_Crash.ok (k : Nat) (l0_0 : List ByteArray) (l0_1 : List S55) (a0_2 : Int) (a0_3 : Int) (a0_4 : Int) (l0_5 : List ByteArray) (l0_6 : List ByteArray) (a1 : ByteArray) (a2 : Bool) (a3 : Int) (a4 : Int) (v0_0 : Value) (v0_1 : Value) (v0_5 : Value) (v0_6 : Value) (r1 : List ByteArray) (r2 : List S55) (r3 : Int) (h : journal_Crash.f k l0_0 l0_1 a0_2 a0_3 a0_4 l0_5 l0_6 a1 a2 a3 a4 = some (r1, r2, r3)) :
    VCalls Try.prog 20 [.agg #[v0_0, v0_1, .int .i64 a0_2, .int .i64 a0_3, .int .i64 a0_4, v0_5, v0_6], .string a1, .bool a2, .int .u64 a3, .int .i64 a4] [.row v0_0 1 (l0_0.map enc_str), .row v0_1 2 (l0_1.map enc55), .row v0_5 1 (l0_5.map enc_str), .row v0_6 1 (l0_6.map enc_str)] (fun v G own => ∃ w0 w1 : Value, v = .tuple #[.agg #[w0, w1], .int .i64 r3] ∧ G = [] ∧ own = [(w0, 9, 1, r1.map enc_str), (w1, 56, 2, r2.map enc55)]) := by
  refine VCalls.intro Try.func20 rfl (len rfl) fun E hC hW hD hU => ?_
  unfold journal_Crash.f at h
  refine sr <| sG (o_box rfl (.agg (.f 0 rfl (.f 1 rfl (.c rfl (.c rfl (.c rfl (.f 2 rfl (.f 3 rfl .nil))))))))) fun g8480 => sG (o_alloc Z25 ZL25) fun g8481 => vs rfl <| dt <|
   VC.join0 (⟨56, [(1, .string a1), (2, .bool a2), (3, .int .u64 a3), (4, .int .i64 a4), (5, .pointer (some ⟨g8480, 0, none⟩)), (10, .pointer (some ⟨g8481, 0, none⟩)), (11, .int .i64 0)], [.row v0_0 1 (l0_0.map enc_str), .row v0_1 2 (l0_1.map enc55), .row v0_5 1 (l0_5.map enc_str), .row v0_6 1 (l0_6.map enc_str)], [(g8481, 25, [.slice none 0 0, .slice none 0 0]), (g8480, 27, [v0_0, v0_1, .int .i64 a0_2, .int .i64 a0_3, .int .i64 a0_4, v0_5, v0_6])], []⟩) (journal_Crash.j1 k a0_2 a0_3 a0_4 a1 a2 a3 a4 l0_0 l0_1 l0_5 l0_6 = some (r1, r2, r3)) ?_ ?_
  · refine VC.block <| sr <| va (op_load 1 7 rfl rfl TI27 rfl (fun h => absurd h (by decide))) <| ?_
    replace h := bd h
    obtain ⟨t8890, hA8891, h⟩ := h
    refine sC (o_call0 FO12 (journal_Right.ok k l0_0 l0_1 a0_2 a0_3 a0_4 l0_5 l0_6 v0_0 v0_1 v0_5 v0_6 t8890 hA8891) rfl rfl (ltn rfl) (All_of (.cons (mG 0 rfl) (.cons (mG 1 rfl) (.cons (mG 2 rfl) (.cons (mG 3 rfl) .nil)))))) <| ?_
    rintro _ _ _ ⟨rfl, rfl, rfl⟩
    replace h := iC h
    rcases h with ⟨c8892, h⟩ | ⟨c8892, h⟩
    · obtain rfl := c8892
      refine va (op_not rfl rfl) <| vs rfl <| dt <| cf <| sr <| vm rfl <| VL.letter ((a1 == (⟨#[]⟩ : ByteArray))) fun b8896 hb8896 => va (op_cmps rfl rfl (congrArg some hb8896)) <| vm rfl <| ?_
      replace h := iC h
      rcases h with ⟨c8897, h⟩ | ⟨c8897, h⟩
      · obtain rfl : b8896 = true := hb8896.symm.trans (c8897)
        refine va (op_fieldAddr FI27_1 rfl (add_at _ _ _)) <| va (op_load 1 1 rfl rfl TI3 rfl (by decide)) <| VL.letter ((a0_2 == 1099511627776)) fun b8898 hb8898 => va (op_cmp rfl rfl (congrArg some hb8898)) <| va (op_pick rfl rfl) <| vs rfl <| dt <| ?_
        replace h := iC h
        rcases h with ⟨c8899, h⟩ | ⟨c8899, h⟩
        · obtain rfl : b8898 = true := hb8898.symm.trans (beq_iff_eq.2 c8899)
          refine ct <| sr <| va (op_build (vals := []) (vcs := []) (cells := [.slice none 0 0, .slice none 0 0]) SI25 rfl .nil (by kernel_rfl)) <| s1 (o_store 0 2 rfl rfl rfl TI25 (.agg (.of rfl)) rfl (len rfl)) <| vs rfl <| dt <| VC.ret <| VR.block <| VR.then <| ?_
          simp only [Option.some.injEq, Prod.mk.injEq] at h
          obtain ⟨rfl, rfl, rfl⟩ := h
          exact VR.nilRow' 9 1 <| VR.nilRow' 56 2 <| VR.fn (rs := [.cell 10 25, .tmp 11]) [] [((.slice none 0 0), 9, 1, ([] : List ByteArray).map enc_str), ((.slice none 0 0), 56, 2, ([] : List S55).map enc55)] [1, 0] rfl (.cell 0 rfl rfl TI25 (fun h => absurd h (by decide)) (.tmp rfl .nil)) ⟨(.slice none 0 0), (.slice none 0 0), rfl, rfl, rfl⟩ trivial rfl (by decide)
        obtain rfl : b8898 = false := hb8898.symm.trans (beq_eq_false_iff_ne.2 c8899)
        refine cf <| VC.skip <| VN.block <| VN.meet0  [0, 1] [] h ⟨rfl, ⟨rfl, rfl, rfl, rfl, rfl, rfl, rfl, trivial⟩, ⟨⟨0, rfl⟩, ⟨1, rfl⟩, ⟨2, rfl⟩, ⟨3, rfl⟩, trivial⟩, rfl, by decide, rfl, by decide⟩
      obtain rfl : b8896 = false := hb8896.symm.trans (Bool.eq_false_iff.2 c8897)
      refine un rfl <| un rfl <| un rfl <| va (op_pick rfl rfl) <| vs rfl <| dt <| cf <| VC.skip <| VN.block <| VN.meet0  [0, 1] [] h ⟨rfl, ⟨rfl, rfl, rfl, rfl, rfl, rfl, rfl, trivial⟩, ⟨⟨0, rfl⟩, ⟨1, rfl⟩, ⟨2, rfl⟩, ⟨3, rfl⟩, trivial⟩, rfl, by decide, rfl, by decide⟩
    obtain rfl := Bool.eq_false_iff.2 c8892
    refine va (op_not rfl rfl) <| vs rfl <| dt <| ct <| sr <| va (op_build (vals := []) (vcs := []) (cells := [.slice none 0 0, .slice none 0 0]) SI25 rfl .nil (by kernel_rfl)) <| s1 (o_store 0 2 rfl rfl rfl TI25 (.agg (.of rfl)) rfl (len rfl)) <| vs rfl <| dt <| VC.ret <| VR.block <| VR.then <| ?_
    simp only [Option.some.injEq, Prod.mk.injEq] at h
    obtain ⟨rfl, rfl, rfl⟩ := h
    exact VR.nilRow' 9 1 <| VR.nilRow' 56 2 <| VR.fn (rs := [.cell 10 25, .tmp 11]) [] [((.slice none 0 0), 9, 1, ([] : List ByteArray).map enc_str), ((.slice none 0 0), 56, 2, ([] : List S55).map enc55)] [1, 0] rfl (.cell 0 rfl rfl TI25 (fun h => absurd h (by decide)) (.tmp rfl .nil)) ⟨(.slice none 0 0), (.slice none 0 0), rfl, rfl, rfl⟩ trivial rfl (by decide)
  clear h
  intro  h
  unfold journal_Crash.j1 at h
  refine sr <| va (op_load 1 7 rfl rfl TI27 rfl (fun h => absurd h (by decide))) <| ?_
  replace h := bd h
  obtain ⟨⟨t8904, t8905, t8906⟩, hA8907, h⟩ := h
  dsimp only at h
  refine sC (o_call0 FO44 (journal_groups.ok k l0_0 l0_1 a0_2 a0_3 a0_4 l0_5 l0_6 v0_0 v0_1 v0_5 v0_6 t8904 t8905 t8906 hA8907) rfl rfl (ltn rfl) (All_of (.cons (mG 0 rfl) (.cons (mG 1 rfl) (.cons (mG 2 rfl) (.cons (mG 3 rfl) .nil)))))) <| ?_
  rintro _ _ _ ⟨rfl, rfl, rfl⟩
  refine sG (o_alloc Z81 ZL81) fun g8908 => s1 (o_store 0 3 rfl rfl rfl TI81 (.agg (.of rfl)) rfl (len rfl)) <| ds <| sr <| vm rfl <| VL.letter ((a1 != (⟨#[]⟩ : ByteArray))) fun b8927 hb8927 => va (op_cmps rfl rfl (congrArg some hb8927)) <| dt <| ?_
  replace h := iC h
  rcases h with ⟨c8928, h⟩ | ⟨c8928, h⟩
  · obtain rfl : b8927 = false := hb8927.symm.trans (bne_of_t c8928)
    refine cf <| sk <| sr <| va (op_load 0 3 rfl rfl TI81 rfl (fun h => absurd h (by decide))) <| va (op_load 2 7 rfl rfl TI27 rfl (fun h => absurd h (by decide))) <| ?_
    replace h := bd h
    obtain ⟨⟨r8929, r8930⟩, hA8931, h⟩ := h
    dsimp only at h
    refine sC (o_call0 FO48 (journal_plan_first.ok k t8904 t8905 t8906 l0_0 l0_1 a0_2 a0_3 a0_4 l0_5 l0_6 v0_0 v0_1 v0_5 v0_6 r8929 r8930 hA8931) rfl rfl (ltn rfl) (All_of (.cons (mG 0 rfl) (.cons (mG 1 rfl) (.cons (mG 2 rfl) (.cons (mG 3 rfl) .nil)))))) <| ?_
    rintro _ _ _ ⟨v8933, v8935, rfl, rfl, rfl⟩
    refine sG (o_alloc Z25 ZL25) fun g8936 => s1 (o_store 0 2 rfl rfl rfl TI25 (.agg (.f 0 rfl (.f 1 rfl .nil))) rfl (len rfl)) <| ds <| sr <| vm rfl <| dt <| ?_
    replace h := iC h
    rcases h with ⟨c8945, h⟩ | ⟨c8945, h⟩
    · obtain rfl := c8945
      refine ct <| rg <| va (op_load 1 3 rfl rfl TI81 rfl (fun h => absurd h (by decide))) <| va (op_load 3 7 rfl rfl TI27 rfl (fun h => absurd h (by decide))) <| ?_
      replace h := bd h
      obtain ⟨⟨r8946, r8947⟩, hA8948, h⟩ := h
      dsimp only at h
      refine sC (o_call0 FO49 (journal_plan_second.ok k t8904 t8905 t8906 l0_0 l0_1 a0_2 a0_3 a0_4 l0_5 l0_6 v0_0 v0_1 v0_5 v0_6 r8946 r8947 hA8948) rfl rfl (ltn rfl) (All_of (.cons (mG 2 rfl) (.cons (mG 3 rfl) (.cons (mG 4 rfl) (.cons (mG 5 rfl) .nil)))))) <| ?_
      rintro _ _ _ ⟨v8950, v8952, rfl, rfl, rfl⟩
      refine s1 (o_store 0 2 rfl rfl rfl TI25 (.agg (.f 0 rfl (.f 1 rfl .nil))) rfl (len rfl)) <| nx <| va (op_load 0 2 rfl rfl TI25 rfl (fun h => absurd h (by decide))) <| vm rfl <| vm rfl <| ?_
      replace h := bd h
      obtain ⟨⟨r8953, r8954, t8955⟩, hA8956, h⟩ := h
      dsimp only at h
      refine sC (o_call0 FO50 (disk_Crash.ok k r8946 r8947 a3 a4 v8950 v8952 r8953 r8954 t8955 hA8956) rfl rfl (ltn rfl) (All_of (.cons (mG 0 rfl) (.cons (mG 1 rfl) .nil)))) <| ?_
      rintro _ _ _ ⟨v8958, v8960, rfl, rfl, rfl⟩
      refine va (op_extract rfl rfl) <| va (op_extract rfl rfl) <| s1 (o_store 2 2 rfl rfl rfl TI25 (.agg (.r 0 rfl (.r 1 rfl .nil))) rfl (len rfl)) <| vs rfl <| dt <| VC.ret <| ?_
      simp only [Option.some.injEq, Prod.mk.injEq] at h
      obtain ⟨rfl, rfl, rfl⟩ := h
      exact VR.fn (rs := [.cell 10 25, .tmp 11]) [] [(v8958, 9, 1, r8953.map enc_str), (v8960, 56, 2, r8954.map enc55)] [0, 1] rfl (.cell 2 rfl rfl TI25 (fun h => absurd h (by decide)) (.tmp rfl .nil)) ⟨v8958, v8960, rfl, rfl, rfl⟩ trivial rfl (by decide)
    obtain rfl := Bool.eq_false_iff.2 c8945
    refine cf <| sk <| sr <| va (op_load 0 2 rfl rfl TI25 rfl (fun h => absurd h (by decide))) <| vm rfl <| vm rfl <| ?_
    replace h := bd h
    obtain ⟨⟨r8961, r8962, t8963⟩, hA8964, h⟩ := h
    dsimp only at h
    refine sC (o_call0 FO50 (disk_Crash.ok k r8929 r8930 a3 a4 v8933 v8935 r8961 r8962 t8963 hA8964) rfl rfl (ltn rfl) (All_of (.cons (mG 0 rfl) (.cons (mG 1 rfl) .nil)))) <| ?_
    rintro _ _ _ ⟨v8966, v8968, rfl, rfl, rfl⟩
    refine va (op_extract rfl rfl) <| va (op_extract rfl rfl) <| s1 (o_store 2 2 rfl rfl rfl TI25 (.agg (.r 0 rfl (.r 1 rfl .nil))) rfl (len rfl)) <| vs rfl <| dt <| VC.ret <| ?_
    simp only [Option.some.injEq, Prod.mk.injEq] at h
    obtain ⟨rfl, rfl, rfl⟩ := h
    exact VR.fn (rs := [.cell 10 25, .tmp 11]) [] [(v8966, 9, 1, r8961.map enc_str), (v8968, 56, 2, r8962.map enc55)] [0, 1] rfl (.cell 2 rfl rfl TI25 (fun h => absurd h (by decide)) (.tmp rfl .nil)) ⟨v8966, v8968, rfl, rfl, rfl⟩ trivial rfl (by decide)
  obtain rfl : b8927 = true := hb8927.symm.trans (bne_of_f c8928)
  refine ct <| sq <| sr <| va (op_load 2 7 rfl rfl TI27 rfl (fun h => absurd h (by decide))) <| vm rfl <| ?_
  replace h := bd h
  obtain ⟨t8975, hA8976, h⟩ := h
  refine sC (o_call0 FO46 (journal_compacts.ok k l0_0 l0_1 a0_2 a0_3 a0_4 l0_5 l0_6 a1 v0_0 v0_1 v0_5 v0_6 t8975 hA8976) rfl rfl (ltn rfl) (All_of (.cons (mG 0 rfl) (.cons (mG 1 rfl) (.cons (mG 2 rfl) (.cons (mG 3 rfl) .nil)))))) <| ?_
  rintro _ _ _ ⟨rfl, rfl, rfl⟩
  refine vs rfl <| nx <| vm rfl <| VL.letter ((t8975 != 0)) fun b8977 hb8977 => va (op_cmp rfl rfl (congrArg some hb8977)) <| dt <| ?_
  replace h := iC h
  rcases h with ⟨c8978, h⟩ | ⟨c8978, h⟩
  · obtain rfl : b8977 = false := hb8977.symm.trans (bne_eq_false_iff_eq.2 c8978)
    refine cf <| sk <| rg <| va (op_load 2 7 rfl rfl TI27 rfl (fun h => absurd h (by decide))) <| vm rfl <| ?_
    replace h := bd h
    obtain ⟨⟨t8979, t8980, t8981⟩, hA8982, h⟩ := h
    dsimp only at h
    refine sC (o_call0 FO47 (journal_other.ok k l0_0 l0_1 a0_2 a0_3 a0_4 l0_5 l0_6 a1 v0_0 v0_1 v0_5 v0_6 t8979 t8980 t8981 hA8982) rfl rfl (ltn rfl) (All_of (.cons (mG 0 rfl) (.cons (mG 1 rfl) (.cons (mG 2 rfl) (.cons (mG 3 rfl) .nil)))))) <| ?_
    rintro _ _ _ ⟨rfl, rfl, rfl⟩
    refine s1 (o_store 0 3 rfl rfl rfl TI81 (.agg (.of rfl)) rfl (len rfl)) <| nx <| va (op_load 0 3 rfl rfl TI81 rfl (fun h => absurd h (by decide))) <| va (op_load 2 7 rfl rfl TI27 rfl (fun h => absurd h (by decide))) <| ?_
    replace h := bd h
    obtain ⟨⟨r8983, r8984⟩, hA8985, h⟩ := h
    dsimp only at h
    refine sC (o_call0 FO48 (journal_plan_first.ok k t8979 t8980 t8981 l0_0 l0_1 a0_2 a0_3 a0_4 l0_5 l0_6 v0_0 v0_1 v0_5 v0_6 r8983 r8984 hA8985) rfl rfl (ltn rfl) (All_of (.cons (mG 0 rfl) (.cons (mG 1 rfl) (.cons (mG 2 rfl) (.cons (mG 3 rfl) .nil)))))) <| ?_
    rintro _ _ _ ⟨v8987, v8989, rfl, rfl, rfl⟩
    refine sG (o_alloc Z25 ZL25) fun g8990 => s1 (o_store 0 2 rfl rfl rfl TI25 (.agg (.f 0 rfl (.f 1 rfl .nil))) rfl (len rfl)) <| ds <| sr <| vm rfl <| dt <| ?_
    replace h := iC h
    rcases h with ⟨c8999, h⟩ | ⟨c8999, h⟩
    · obtain rfl := c8999
      refine ct <| rg <| va (op_load 1 3 rfl rfl TI81 rfl (fun h => absurd h (by decide))) <| va (op_load 3 7 rfl rfl TI27 rfl (fun h => absurd h (by decide))) <| ?_
      replace h := bd h
      obtain ⟨⟨r9000, r9001⟩, hA9002, h⟩ := h
      dsimp only at h
      refine sC (o_call0 FO49 (journal_plan_second.ok k t8979 t8980 t8981 l0_0 l0_1 a0_2 a0_3 a0_4 l0_5 l0_6 v0_0 v0_1 v0_5 v0_6 r9000 r9001 hA9002) rfl rfl (ltn rfl) (All_of (.cons (mG 2 rfl) (.cons (mG 3 rfl) (.cons (mG 4 rfl) (.cons (mG 5 rfl) .nil)))))) <| ?_
      rintro _ _ _ ⟨v9004, v9006, rfl, rfl, rfl⟩
      refine s1 (o_store 0 2 rfl rfl rfl TI25 (.agg (.f 0 rfl (.f 1 rfl .nil))) rfl (len rfl)) <| nx <| va (op_load 0 2 rfl rfl TI25 rfl (fun h => absurd h (by decide))) <| vm rfl <| vm rfl <| ?_
      replace h := bd h
      obtain ⟨⟨r9007, r9008, t9009⟩, hA9010, h⟩ := h
      dsimp only at h
      refine sC (o_call0 FO50 (disk_Crash.ok k r9000 r9001 a3 a4 v9004 v9006 r9007 r9008 t9009 hA9010) rfl rfl (ltn rfl) (All_of (.cons (mG 0 rfl) (.cons (mG 1 rfl) .nil)))) <| ?_
      rintro _ _ _ ⟨v9012, v9014, rfl, rfl, rfl⟩
      refine va (op_extract rfl rfl) <| va (op_extract rfl rfl) <| s1 (o_store 2 2 rfl rfl rfl TI25 (.agg (.r 0 rfl (.r 1 rfl .nil))) rfl (len rfl)) <| vs rfl <| dt <| VC.ret <| ?_
      simp only [Option.some.injEq, Prod.mk.injEq] at h
      obtain ⟨rfl, rfl, rfl⟩ := h
      exact VR.fn (rs := [.cell 10 25, .tmp 11]) [] [(v9012, 9, 1, r9007.map enc_str), (v9014, 56, 2, r9008.map enc55)] [0, 1] rfl (.cell 2 rfl rfl TI25 (fun h => absurd h (by decide)) (.tmp rfl .nil)) ⟨v9012, v9014, rfl, rfl, rfl⟩ trivial rfl (by decide)
    obtain rfl := Bool.eq_false_iff.2 c8999
    refine cf <| sk <| sr <| va (op_load 0 2 rfl rfl TI25 rfl (fun h => absurd h (by decide))) <| vm rfl <| vm rfl <| ?_
    replace h := bd h
    obtain ⟨⟨r9015, r9016, t9017⟩, hA9018, h⟩ := h
    dsimp only at h
    refine sC (o_call0 FO50 (disk_Crash.ok k r8983 r8984 a3 a4 v8987 v8989 r9015 r9016 t9017 hA9018) rfl rfl (ltn rfl) (All_of (.cons (mG 0 rfl) (.cons (mG 1 rfl) .nil)))) <| ?_
    rintro _ _ _ ⟨v9020, v9022, rfl, rfl, rfl⟩
    refine va (op_extract rfl rfl) <| va (op_extract rfl rfl) <| s1 (o_store 2 2 rfl rfl rfl TI25 (.agg (.r 0 rfl (.r 1 rfl .nil))) rfl (len rfl)) <| vs rfl <| dt <| VC.ret <| ?_
    simp only [Option.some.injEq, Prod.mk.injEq] at h
    obtain ⟨rfl, rfl, rfl⟩ := h
    exact VR.fn (rs := [.cell 10 25, .tmp 11]) [] [(v9020, 9, 1, r9015.map enc_str), (v9022, 56, 2, r9016.map enc55)] [0, 1] rfl (.cell 2 rfl rfl TI25 (fun h => absurd h (by decide)) (.tmp rfl .nil)) ⟨v9020, v9022, rfl, rfl, rfl⟩ trivial rfl (by decide)
  obtain rfl : b8977 = true := hb8977.symm.trans (bne_iff_ne.2 c8978)
  refine ct <| sr <| va (op_build (vals := []) (vcs := []) (cells := [.slice none 0 0, .slice none 0 0]) SI25 rfl .nil (by kernel_rfl)) <| vm rfl <| s1 (o_store 1 2 rfl rfl rfl TI25 (.agg (.of rfl)) rfl (len rfl)) <| vs rfl <| dt <| VC.ret <| VR.then <| VR.then <| ?_
  simp only [Option.some.injEq, Prod.mk.injEq] at h
  obtain ⟨rfl, rfl, rfl⟩ := h
  exact VR.nilRow' 9 1 <| VR.nilRow' 56 2 <| VR.fn (rs := [.cell 10 25, .tmp 11]) [] [((.slice none 0 0), 9, 1, ([] : List ByteArray).map enc_str), ((.slice none 0 0), 56, 2, ([] : List S55).map enc55)] [1, 0] rfl (.cell 1 rfl rfl TI25 (fun h => absurd h (by decide)) (.tmp rfl .nil)) ⟨(.slice none 0 0), (.slice none 0 0), rfl, rfl, rfl⟩ trivial rfl (by decide)

theorem tarryref01_Same.ok (k : Nat) (l0 : List ByteArray) (l1 : List ByteArray) (v0 : Value) (v1 : Value) (r1 : Bool) (h : tarryref01_Same.f k l0 l1 = some r1) :
    VCalls Try.prog 17 [v0, v1] [.row v0 1 (l0.map enc_str), .row v1 1 (l1.map enc_str)] (fun v G own => v = .bool r1 ∧ G = [] ∧ own = []) := by
  refine VCalls.intro Try.func17 rfl (len rfl) fun E hC hW hD hU => ?_
  unfold tarryref01_Same.f at h
  refine sr <| vs rfl <| ds <| sr <| vm rfl <| va (op_len (m := l0.length) 0 lenm Try.underlying22 rfl rfl) <| vm rfl <| va (op_len (m := l1.length) 1 lenm Try.underlying22 rfl rfl) <|
   VL.letter (((l0.length : Int) != (l1.length : Int))) fun b9194 hb9194 => va (op_cmp rfl rfl (congrArg some hb9194)) <| dt <| ?_
  replace h := iC h
  rcases h with ⟨c9195, h⟩ | ⟨c9195, h⟩
  · obtain rfl : b9194 = false := hb9194.symm.trans (bne_eq_false_iff_eq.2 c9195)
    refine cf <| sk <| sq <| sr <| vm rfl <| va (op_len (m := l0.length) 0 lenm Try.underlying22 rfl rfl) <| vm rfl <| dt <| VC.block <|
     VC.loop1 (fun (i9249 : Int) => ⟨26, [(0, v0), (1, v1), (4, .bool false), (12, .int .i64 (l0.length : Int)), (13, .int .i64 i9249)], [.row v0 1 (l0.map enc_str), .row v1 1 (l1.map enc_str)], [], []⟩) (fun (ml1 : Nat) (i9249 : Int) => tarryref01_Same.l1 k l0 l1 ml1 i9249 = some r1) k 0 [] [] h ⟨rfl, ⟨rfl, rfl, rfl, rfl, rfl, trivial⟩, ⟨⟨0, rfl⟩, ⟨1, rfl⟩, trivial⟩, rfl, by decide, rfl, by decide⟩ (by intros; simp [tarryref01_Same.l1]) <|
     ?_
    clear h
    intro ml1 ihl1 i9249 h
    simp only [tarryref01_Same.l1] at h
    refine sr <| VL.letter (decide (i9249 < (l0.length : Int))) fun b9263 hb9263 => va (op_cmp rfl rfl (congrArg some hb9263)) <| ds <| ?_
    replace h := iC h
    rcases h with ⟨c9265, h⟩ | ⟨c9265, h⟩
    · cases lT c9265 hb9263
      refine ct <| sk <| sq <| VC.block <| sr <| vm rfl <| vs rfl <| dt <| ?_
      replace h := iN h
      obtain ⟨c9271, h⟩ := h
      replace h := bd h
      obtain ⟨x9272, hx9272, h⟩ := h
      replace h := bd h
      obtain ⟨x9273, hx9273, h⟩ := h
      refine VC.letter ((x9272 != x9273)) fun b9274 hb9274 => VC.open (m := l0.length) 0 lenm rfl (pos_get hx9272) <| ?_
      rintro ad9200 n9201 rfl
      refine VC.open (m := l1.length) 1 lenm rfl (pos_get hx9273) <| ?_
      rintro ad9203 n9204 rfl
      refine VC.join0 (⟨26, [(0, (.slice (some ad9200) l0.length n9201)), (1, (.slice (some ad9203) l1.length n9204)), (4, .bool false), (5, .int .i64 i9249), (12, .int .i64 (l0.length : Int)), (13, .int .i64 i9249), (14, .bool true), (15, .int .i64 i9249), (16, (.slice (some ad9200) l0.length n9201)), (17, .int .i64 i9249), (19, .string x9272), (20, (.slice (some ad9203) l1.length n9204)), (21, .int .i64 i9249), (23, .string x9273), (24, .bool b9274)], [.row (.slice (some ad9200) l0.length n9201) 1 (l0.map enc_str), .row (.slice (some ad9203) l1.length n9204) 1 (l1.map enc_str)], [], []⟩) (True) ?_ ?_
      · exact VC.draw ⟨0, [], [.row (.slice (some ad9200) l0.length n9201) 1 (l0.map enc_str), .row (.slice (some ad9203) l1.length n9204) 1 (l1.map enc_str)], [], []⟩ (by kernel_rfl) rfl (by kernel_rfl) (n := 9) (listed := LB 9 0) <| av 0 1 rfl (mv rfl) <| av 1 3 rfl (mv rfl) <|
         av 2 7 rfl (op_indexAddr Try.underlying22 TI9 rfl rfl c9271 (lt_get c9271 hx9272) rfl) <| av 3 15 rfl (op_load_row (sz := 1) (o := 0) 0 i9249.toNat 1 rfl rfl (get_map hx9272) TI9 rfl (by decide)) <| av 4 31 rfl (mv rfl) <| av 5 63 rfl (mv rfl) <|
         av 6 127 rfl (op_indexAddr Try.underlying22 TI9 rfl rfl c9271 (lt_get c9271 hx9273) rfl) <| av 7 255 rfl (op_load_row (sz := 1) (o := 0) 1 i9249.toNat 1 rfl rfl (get_map hx9273) TI9 rfl (by decide)) <| av 8 511 rfl (op_cmps rfl rfl (congrArg some hb9274)) <| VA.done (by kernel_rfl) <|
         VN.meet0  [] [] trivial ⟨rfl, ⟨rfl, rfl, rfl, rfl, rfl, rfl, rfl, rfl, rfl, rfl, rfl, rfl, rfl, rfl, rfl, trivial⟩, ⟨⟨0, rfl⟩, ⟨1, rfl⟩, trivial⟩, rfl, by decide, rfl, by decide⟩
      intro _
      replace h := iC h
      rcases h with ⟨c9275, h⟩ | ⟨c9275, h⟩
      · obtain rfl : b9274 = false := hb9274.symm.trans (bne_of_t c9275)
        refine cf <| VC.skip <| VN.block <| tr <| va (op_ari64 rfl rfl rfl) <| vm rfl <| dn <| VN.again [] [] (ihl1 (wrap64 (i9249 + 1)) h) ⟨rfl, ⟨rfl, rfl, rfl, rfl, rfl, trivial⟩, ⟨⟨0, rfl⟩, ⟨1, rfl⟩, trivial⟩, rfl, by decide, rfl, by decide⟩
      obtain rfl : b9274 = true := hb9274.symm.trans (bne_of_f c9275)
      refine ct <| sr <| vs rfl <| dt <| VC.ret <| VR.block <| VR.then <| VR.then <| VR.block <| VR.then <| ?_
      obtain rfl := Option.some.inj h
      exact VR.fn (rs := [.tmp 4]) [] [] [] rfl (.tmp rfl .nil) ⟨rfl, rfl, rfl⟩ trivial rfl (by decide)
    cases lF c9265 hb9263
    refine cf <| VC.exit <| VX.then <| VX.then <| VX.hit <| tx <| vs rfl <| dt <| VC.ret <| ?_
    obtain rfl := Option.some.inj h
    exact VR.fn (rs := [.tmp 4]) [] [] [] rfl (.tmp rfl .nil) ⟨rfl, rfl, rfl⟩ trivial rfl (by decide)
  obtain rfl : b9194 = true := hb9194.symm.trans (bne_iff_ne.2 c9195)
  refine ct <| sr <| vs rfl <| dt <| VC.ret <| VR.then <| ?_
  obtain rfl := Option.some.inj h
  exact VR.fn (rs := [.tmp 4]) [] [] [] rfl (.tmp rfl .nil) ⟨rfl, rfl, rfl⟩ trivial rfl (by decide)

theorem tarrylaw05_alive.ok (k : Nat)   (r1 : Bool) (h : tarrylaw05_alive.f k = some r1) :
    VCalls Try.prog 14 [] [] (fun v G own => v = .bool r1 ∧ G = [] ∧ own = []) := by
  refine VCalls.intro Try.func14 rfl (len rfl) fun E hC hW hD hU => ?_
  unfold tarrylaw05_alive.f at h
  refine sr <| vs rfl <| nx <| ?_
  replace h := bd h
  obtain ⟨⟨r30259, r30260, t30261, t30262, t30263, r30264, r30265, t30266⟩, hA30267, h⟩ := h
  dsimp only at h
  refine sC (o_call0 FO15 (journal_Format.ok k 8 r30259 r30260 t30261 t30262 t30263 r30264 r30265 t30266 hA30267) rfl rfl (ltn rfl) (All_of .nil)) <| ?_
  rintro _ _ _ ⟨v30269, v30271, v30273, v30275, rfl, rfl, rfl⟩
  refine vm rfl <| va (op_extract rfl rfl) <| va (op_extract rfl rfl) <| sG (o_alloc Z27 ZL27) fun g30276 => s1 (o_store 0 7 rfl rfl rfl TI27 (.agg (.f 0 rfl (.f 1 rfl (.c rfl (.c rfl (.c rfl (.r 0 rfl (.r 1 rfl .nil)))))))) rfl (len rfl)) <| vs rfl <| nx <|
   va (op_load 0 7 rfl rfl TI27 rfl (fun h => absurd h (by decide))) <| VL.freezeRow' 0 rfl <| VL.freezeRow' 0 rfl <| ?_
  replace h := bd h
  obtain ⟨⟨r30277, r30278, t30279, t30280, t30281, r30282, r30283, t30284⟩, hA30285, h⟩ := h
  dsimp only at h
  refine sC (o_call0 FO18 (journal_Append.ok k r30259 r30260 t30261 t30262 t30263 r30264 r30265 (⟨#[97]⟩ : ByteArray) v30269 v30271 v30273 v30275 r30277 r30278 t30279 t30280 t30281 r30282 r30283 t30284 hA30285) rfl rfl (ltn rfl) (All_of (.cons (mG 2 rfl) (.cons (mG 3 rfl) (.cons (mG 1 rfl) (.cons (mG 0 rfl) .nil)))))) <|
   ?_
  rintro _ _ _ ⟨v30287, v30289, v30291, v30293, rfl, rfl, rfl⟩
  refine vm rfl <| va (op_extract rfl rfl) <| va (op_extract rfl rfl) <| s1 (o_store 0 7 rfl rfl rfl TI27 (.agg (.f 0 rfl (.f 1 rfl (.c rfl (.c rfl (.c rfl (.f 2 rfl (.f 3 rfl .nil)))))))) rfl (len rfl)) <| vs rfl <| nx <| va (op_load 0 7 rfl rfl TI27 rfl (fun h => absurd h (by decide))) <| ?_
  replace h := bd h
  obtain ⟨⟨r30294, r30295, t30296, t30297, t30298, r30299, r30300, t30301⟩, hA30302, h⟩ := h
  dsimp only at h
  refine sC (o_call0 FO19 (journal_Commit.ok k r30277 r30278 t30279 t30280 t30281 r30282 r30283 v30287 v30289 v30291 v30293 r30294 r30295 t30296 t30297 t30298 r30299 r30300 t30301 hA30302) rfl rfl (ltn rfl) (All_of (.cons (mG 0 rfl) (.cons (mG 1 rfl) (.cons (mG 2 rfl) (.cons (mG 3 rfl) .nil)))))) <|
   ?_
  rintro _ _ _ ⟨v30304, v30306, v30308, v30310, rfl, rfl, rfl⟩
  refine vm rfl <| va (op_extract rfl rfl) <| va (op_extract rfl rfl) <| s1 (o_store 0 7 rfl rfl rfl TI27 (.agg (.f 0 rfl (.f 1 rfl (.c rfl (.c rfl (.c rfl (.r 0 rfl (.r 1 rfl .nil)))))))) rfl (len rfl)) <| vs rfl <| nx <| vm rfl <|
   VL.letter ((t30266 == 0)) fun b30325 hb30325 => va (op_cmp rfl rfl (congrArg some hb30325)) <| vm rfl <| ?_
  replace h := iC h
  rcases h with ⟨c30326, h⟩ | ⟨c30326, h⟩
  · obtain rfl : b30325 = true := hb30325.symm.trans (beq_iff_eq.2 c30326)
    refine vm rfl <| VL.letter ((t30284 == 0)) fun b30327 hb30327 => va (op_cmp rfl rfl (congrArg some hb30327)) <| va (op_pick rfl rfl) <| vm rfl <| ?_
    replace h := iC h
    rcases h with ⟨c30328, h⟩ | ⟨c30328, h⟩
    · obtain rfl : b30327 = true := hb30327.symm.trans (beq_iff_eq.2 c30328)
      refine vm rfl <| VL.letter ((t30301 == 0)) fun b30329 hb30329 => va (op_cmp rfl rfl (congrArg some hb30329)) <| va (op_pick rfl rfl) <| vm rfl <| ?_
      replace h := iC h
      rcases h with ⟨c30330, h⟩ | ⟨c30330, h⟩
      · obtain rfl : b30329 = true := hb30329.symm.trans (beq_iff_eq.2 c30330)
        refine va (op_fieldAddr FI27_5 rfl (add_at _ _ _)) <| va (op_load 0 1 rfl rfl TI22 rfl (by decide)) <| va (op_len_own (m := r30300.length) 1 lenm Try.underlying22 rfl rfl) <| VL.letter (((r30300.length : Int) == 1)) fun b30331 hb30331 => va (op_cmp rfl rfl (congrArg some hb30331)) <|
         va (op_pick rfl rfl) <| vm rfl <| ?_
        replace h := iC h
        rcases h with ⟨c30332, h⟩ | ⟨c30332, h⟩
        · obtain rfl : b30331 = true := hb30331.symm.trans (beq_iff_eq.2 c30332)
          refine va (op_fieldAddr FI27_5 rfl (add_at _ _ _)) <| va (op_load 0 1 rfl rfl TI22 rfl (by decide)) <| ?_
          replace h := bd h
          obtain ⟨x30333, hx30333, h⟩ := h
          refine VL.openR (m := r30300.length) 1 lenm rfl (pos_get hx30333) <| ?_
          rintro g30334 n30335 rfl
          refine va (op_indexAddr Try.underlying22 TI9 rfl rfl (by decide) (lt_get (by decide) hx30333) (add_zero_at _ _)) <| va (op_load_own (sz := 1) (o := 0) 1 0 1 rfl rfl (get_map hx30333) TI9 rfl (by decide)) <|
           VL.letter ((x30333 == (⟨#[97]⟩ : ByteArray))) fun b30336 hb30336 => va (op_cmps rfl rfl (congrArg some hb30336)) <| va (op_pick rfl rfl) <| vm rfl <| ?_
          replace h := iC h
          rcases h with ⟨c30337, h⟩ | ⟨c30337, h⟩
          · obtain rfl : b30336 = true := hb30336.symm.trans (c30337)
            refine va (op_fieldAddr FI27_1 rfl (add_at _ _ _)) <| va (op_load 0 1 rfl rfl TI3 rfl (by decide)) <| VL.letter ((t30296 == 2)) fun b30338 hb30338 => va (op_cmp rfl rfl (congrArg some hb30338)) <| va (op_pick rfl rfl) <| vs rfl <| dt <| VC.ret <| ?_
            obtain rfl := Option.some.inj h
            subst hb30338
            exact VR.fn (rs := [.tmp 0]) [] [] [] rfl (.tmp rfl .nil) ⟨rfl, rfl, rfl⟩ trivial rfl (by decide)
          obtain rfl : b30336 = false := hb30336.symm.trans (Bool.eq_false_iff.2 c30337)
          refine un rfl <| un rfl <| un rfl <| va (op_pick rfl rfl) <| vs rfl <| dt <| VC.ret <| ?_
          obtain rfl := Option.some.inj h
          exact VR.fn (rs := [.tmp 0]) [] [] [] rfl (.tmp rfl .nil) ⟨rfl, rfl, rfl⟩ trivial rfl (by decide)
        obtain rfl : b30331 = false := hb30331.symm.trans (beq_eq_false_iff_ne.2 c30332)
        refine un rfl <| un rfl <| un rfl <| un rfl <| un rfl <| va (op_pick rfl rfl) <| vm rfl <| un rfl <| un rfl <| un rfl <| va (op_pick rfl rfl) <| vs rfl <| dt <| VC.ret <| ?_
        obtain rfl := Option.some.inj h
        exact VR.fn (rs := [.tmp 0]) [] [] [] rfl (.tmp rfl .nil) ⟨rfl, rfl, rfl⟩ trivial rfl (by decide)
      obtain rfl : b30329 = false := hb30329.symm.trans (beq_eq_false_iff_ne.2 c30330)
      refine un rfl <| un rfl <| un rfl <| un rfl <| va (op_pick rfl rfl) <| vm rfl <| un rfl <| un rfl <| un rfl <| un rfl <| un rfl <| va (op_pick rfl rfl) <| vm rfl <| un rfl <| un rfl <| un rfl <| va (op_pick rfl rfl) <| vs rfl <| dt <| VC.ret <| ?_
      obtain rfl := Option.some.inj h
      exact VR.fn (rs := [.tmp 0]) [] [] [] rfl (.tmp rfl .nil) ⟨rfl, rfl, rfl⟩ trivial rfl (by decide)
    obtain rfl : b30327 = false := hb30327.symm.trans (beq_eq_false_iff_ne.2 c30328)
    refine un rfl <| un rfl <| va (op_pick rfl rfl) <| vm rfl <| un rfl <| un rfl <| un rfl <| un rfl <| va (op_pick rfl rfl) <| vm rfl <| un rfl <| un rfl <| un rfl <| un rfl <| un rfl <| va (op_pick rfl rfl) <| vm rfl <| un rfl <| un rfl <| un rfl <| va (op_pick rfl rfl) <| vs rfl <| dt <| VC.ret <|
     ?_
    obtain rfl := Option.some.inj h
    exact VR.fn (rs := [.tmp 0]) [] [] [] rfl (.tmp rfl .nil) ⟨rfl, rfl, rfl⟩ trivial rfl (by decide)
  obtain rfl : b30325 = false := hb30325.symm.trans (beq_eq_false_iff_ne.2 c30326)
  refine un rfl <| un rfl <| va (op_pick rfl rfl) <| vm rfl <| un rfl <| un rfl <| va (op_pick rfl rfl) <| vm rfl <| un rfl <| un rfl <| un rfl <| un rfl <| va (op_pick rfl rfl) <| vm rfl <| un rfl <| un rfl <| un rfl <| un rfl <| un rfl <| va (op_pick rfl rfl) <| vm rfl <| un rfl <| un rfl <|
   un rfl <| va (op_pick rfl rfl) <| vs rfl <| dt <| VC.ret <| ?_
  obtain rfl := Option.some.inj h
  exact VR.fn (rs := [.tmp 0]) [] [] [] rfl (.tmp rfl .nil) ⟨rfl, rfl, rfl⟩ trivial rfl (by decide)

end Go.Proofs.Ytipeglbeongfmaa.PJournalLives
