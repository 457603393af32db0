/- Written by a program of this repo: what the program's functions do, each as a Lean function, shown of the loaded code; or a statement's row over that; no condition of its own. -/
import Derived.Test.YtipeglbeongfmaaGreatPJournalCrashesx14
namespace Go.Proofs.YtipeglbeongfmaaGreat.PJournalCrashes
open Go Go.RowKit Go.Proofs.YtipeglbeongfmaaGreatV
set_option linter.unusedVariables false
set_option linter.unusedSimpArgs false
set_option maxHeartbeats 4000000
set_option maxRecDepth 100000

theorem tarryref05_Open.ok (k : Nat) (l0_0 : List ByteArray) (l0_1 : List S71) (v0_0 : Value) (v0_1 : Value) (r1 : List ByteArray) (r2 : List S71) (r3 : Int) (r4 : Int) (r5 : Int) (r6 : List ByteArray) (r7 : List ByteArray) (r8 : Int) (h : tarryref05_Open.f k l0_0 l0_1 = some (r1, r2, r3, r4, r5, r6, r7, r8)) :
    VCalls Tryz.prog 32 [.agg #[v0_0, v0_1]] [.row v0_0 1 (l0_0.map enc_str), .row v0_1 2 (l0_1.map enc71)] (fun v G own => ∃ w0 w1 w5 w6 : Value, v = .agg #[w0, w1, iv r3, iv r4, iv r5, w5, w6, iv r8] ∧ G = [.row w0 1 (r1.map enc_str), .row w1 2 (r2.map enc71)] ∧ own = [(w5, 9, 1, r6.map enc_str), (w6, 9, 1, r7.map enc_str)]) := by
  refine VCalls.intro Tryz.func32 rfl (len rfl) fun E hC hW hD hU => ?_
  unfold tarryref05_Open.f at h
  refine sr <| sG (o_box rfl (.agg (.f 0 rfl (.f 1 rfl .nil)))) fun g26916 => sG (o_alloc Z59 ZL59) fun g26917 => ds <| sr <| va (op_load 1 2 rfl rfl TI25 rfl (fun h => absurd h (by decide))) <| ?_
  replace h := bd h
  obtain ⟨t26949, hA26950, h⟩ := h
  refine sC (o_call0 FO57 (tarryref03_Right.ok k l0_0 l0_1 v0_0 v0_1 t26949 hA26950) rfl rfl (ltn rfl) (All_of (.cons (mG 0 rfl) (.cons (mG 1 rfl) .nil)))) <| ?_
  rintro _ _ _ ⟨rfl, rfl, rfl⟩
  replace h := iC h
  rcases h with ⟨c26951, h⟩ | ⟨c26951, h⟩
  · obtain rfl := c26951
    refine va (op_not rfl rfl) <| vm rfl <| va (op_fieldAddr FI25_0 rfl (add_at _ _ _)) <| va (op_load 1 1 rfl rfl TI22 rfl (by decide)) <| va (op_len (m := l0_0.length) 0 lenm Tryz.underlying22 rfl rfl) <|
     VL.letter (decide ((l0_0.length : Int) < 8)) fun b26952 hb26952 => va (op_cmp rfl rfl (congrArg some hb26952)) <| va (op_pick rfl rfl) <| vm rfl <| ?_
    replace h := iC h
    rcases h with ⟨c26953, h⟩ | ⟨c26953, h⟩
    · cases lT c26953 hb26952
      refine un rfl <| un rfl <| un rfl <| un rfl <| va (op_pick rfl rfl) <| dt <| ct <| sr <|
       va (op_build (vals := [(1, iv 1)]) (vcs := [(1, [iv 1])]) (cells := [sn, sn, iv 0, iv 0, iv 0, sn, sn, iv 1]) SI59 rfl (.cons ⟨rfl, (.c rfl)⟩ .nil) (by kernel_rfl)) <|
       s1 (o_store 0 8 rfl rfl rfl TI59 (.agg (.of rfl)) rfl (len rfl)) <| dt <| VC.ret <| VR.then <| ?_
      simp only [Option.some.injEq, Prod.mk.injEq] at h
      obtain ⟨rfl, rfl, rfl, rfl, rfl, rfl, rfl, rfl⟩ := h
      exact VR.nilFact' 1 <| VR.nilFact' 2 <| VR.nilRow' 9 1 <| VR.nilRow' 9 1 <| rf [.cell 2 59] [1, 0] (.cell 0 rfl rfl TI59 (fun h => absurd h (by decide)) .nil) ⟨sn, sn, sn, sn, rfl, rfl, rfl⟩
    cases lF c26953 hb26952
    refine va (op_fieldAddr FI25_1 rfl (add_at _ _ _)) <| va (op_load 1 1 rfl rfl TI23 rfl (by decide)) <| va (op_len (m := l0_1.length) 1 lenm Tryz.underlying23 rfl rfl) <| VL.letter (decide ((l0_1.length : Int) > 0)) fun b26958 hb26958 => va (op_cmp rfl rfl (congrArg some hb26958)) <|
     va (op_pick rfl rfl) <| dt <| ?_
    replace h := iC h
    rcases h with ⟨c26959, h⟩ | ⟨c26959, h⟩
    · cases lT c26959 hb26958
      refine ct <| sr <| va (op_build (vals := [(1, iv 1)]) (vcs := [(1, [iv 1])]) (cells := [sn, sn, iv 0, iv 0, iv 0, sn, sn, iv 1]) SI59 rfl (.cons ⟨rfl, (.c rfl)⟩ .nil) (by kernel_rfl)) <|
       s1 (o_store 0 8 rfl rfl rfl TI59 (.agg (.of rfl)) rfl (len rfl)) <| dt <| VC.ret <| VR.then <| ?_
      simp only [Option.some.injEq, Prod.mk.injEq] at h
      obtain ⟨rfl, rfl, rfl, rfl, rfl, rfl, rfl, rfl⟩ := h
      exact VR.nilFact' 1 <| VR.nilFact' 2 <| VR.nilRow' 9 1 <| VR.nilRow' 9 1 <| rf [.cell 2 59] [1, 0] (.cell 0 rfl rfl TI59 (fun h => absurd h (by decide)) .nil) ⟨sn, sn, sn, sn, rfl, rfl, rfl⟩
    cases lF c26959 hb26958
    refine cf <| sk <| sr <| va (op_load 1 2 rfl rfl TI25 rfl (fun h => absurd h (by decide))) <| ?_
    replace h := bd h
    obtain ⟨⟨r26964, r26965, t26966, t26967, t26968, r26969, r26970⟩, hA26971, h⟩ := h
    dsimp only at h
    refine sC (o_call0 FO58 (tarryref05_read.ok k l0_0 l0_1 0 v0_0 v0_1 r26964 r26965 t26966 t26967 t26968 r26969 r26970 hA26971) rfl rfl (ltn rfl) (All_of (.cons (mG 0 rfl) (.cons (mG 1 rfl) .nil)))) <| ?_
    rintro _ _ _ ⟨v26973, v26975, v26977, v26979, rfl, rfl, rfl⟩
    refine sG (o_alloc Z27 ZL27) fun g26980 => s1 (o_store 0 7 rfl rfl rfl TI27 (.agg (.r 0 rfl (.r 1 rfl (.c rfl (.c rfl (.c rfl (.r 2 rfl (.r 3 rfl .nil)))))))) rfl (len rfl)) <| nx <| va (op_load 2 2 rfl rfl TI25 rfl (fun h => absurd h (by decide))) <| ?_
    replace h := bd h
    obtain ⟨⟨r26981, r26982, t26983, t26984, t26985, r26986, r26987⟩, hA26988, h⟩ := h
    dsimp only at h
    refine sC (o_call0 FO58 (tarryref05_read.ok k l0_0 l0_1 1 v0_0 v0_1 r26981 r26982 t26983 t26984 t26985 r26986 r26987 hA26988) rfl rfl (ltn rfl) (All_of (.cons (mG 0 rfl) (.cons (mG 1 rfl) .nil)))) <| ?_
    rintro _ _ _ ⟨v26990, v26992, v26994, v26996, rfl, rfl, rfl⟩
    refine sG (o_alloc Z27 ZL27) fun g26997 => s1 (o_store 0 7 rfl rfl rfl TI27 (.agg (.r 0 rfl (.r 1 rfl (.c rfl (.c rfl (.c rfl (.r 2 rfl (.r 3 rfl .nil)))))))) rfl (len rfl)) <| ds <| sr <| va (op_fieldAddr FI27_1 rfl (add_at _ _ _)) <| va (op_load 0 1 rfl rfl TI3 rfl (by decide)) <|
     va (op_fieldAddr FI27_1 rfl (add_at _ _ _)) <| va (op_load 1 1 rfl rfl TI3 rfl (by decide)) <| VL.letter (decide (t26983 > t26966)) fun b27000 hb27000 => va (op_cmp rfl rfl (congrArg some hb27000)) <| dt <| ?_
    replace h := iC h
    rcases h with ⟨c27001, h⟩ | ⟨c27001, h⟩
    · cases lT c27001 hb27000
      refine ct <| rg <| va (op_load 0 7 rfl rfl TI27 rfl (fun h => absurd h (by decide))) <| s1 (o_store 1 7 rfl rfl rfl TI27 (.agg (.r 0 rfl (.r 1 rfl (.c rfl (.c rfl (.c rfl (.r 2 rfl (.r 3 rfl .nil)))))))) rfl (len rfl)) <| ds <| sr <| va (op_fieldAddr FI27_1 rfl (add_at _ _ _)) <|
       va (op_load 1 1 rfl rfl TI3 rfl (by decide)) <| VL.letter ((t26983 == 0)) fun b27008 hb27008 => va (op_cmp rfl rfl (congrArg some hb27008)) <| dt <| ?_
      replace h := iC h
      rcases h with ⟨c27009, h⟩ | ⟨c27009, h⟩
      · obtain rfl : b27008 = true := hb27008.symm.trans (beq_iff_eq.2 c27009)
        refine ct <| sr <| va (op_build (vals := [(1, iv 5)]) (vcs := [(1, [iv 5])]) (cells := [sn, sn, iv 0, iv 0, iv 0, sn, sn, iv 5]) SI59 rfl (.cons ⟨rfl, (.c rfl)⟩ .nil) (by kernel_rfl)) <|
         s1 (o_store 2 8 rfl rfl rfl TI59 (.agg (.of rfl)) rfl (len rfl)) <| dt <| VC.ret <| VR.then <| ?_
        simp only [Option.some.injEq, Prod.mk.injEq] at h
        obtain ⟨rfl, rfl, rfl, rfl, rfl, rfl, rfl, rfl⟩ := h
        exact VR.nilFact' 1 <| VR.nilFact' 2 <| VR.nilRow' 9 1 <| VR.nilRow' 9 1 <| rf [.cell 2 59] [1, 0] (.cell 2 rfl rfl TI59 (fun h => absurd h (by decide)) .nil) ⟨sn, sn, sn, sn, rfl, rfl, rfl⟩
      obtain rfl : b27008 = false := hb27008.symm.trans (beq_eq_false_iff_ne.2 c27009)
      refine cf <| sk <| sr <| va (op_load 3 2 rfl rfl TI25 rfl (fun h => absurd h (by decide))) <| va (op_fieldAddr FI27_2 rfl (add_at _ _ _)) <| va (op_load 1 1 rfl rfl TI3 rfl (by decide)) <| va (op_fieldAddr FI27_3 rfl (add_at _ _ _)) <| va (op_load 1 1 rfl rfl TI3 rfl (by decide)) <| ?_
      replace h := bd h
      obtain ⟨t27014, hA27015, h⟩ := h
      refine sC (o_call0 FO59 (tarryref05_Bytes.ok k l0_0 l0_1 t26984 t26985 v0_0 v0_1 t27014 hA27015) rfl rfl (ltn rfl) (All_of (.cons (mG 0 rfl) (.cons (mG 1 rfl) .nil)))) <| ?_
      rintro _ _ _ ⟨rfl, rfl, rfl⟩
      refine vs rfl <| nx <| vm rfl <| ?_
      replace h := bd h
      obtain ⟨r27016, hA27017, h⟩ := h
      refine sC (o_call0 FO60 (tarryref04_Scan.ok k t27014 r27016 hA27017) rfl rfl (ltn rfl) (All_of .nil)) <| ?_
      rintro v27019 _ _ ⟨_, rfl, rfl, rfl⟩
      refine va (op_fieldAddr FI27_5 rfl (add_at _ _ _)) <| s1 (o_store 1 1 rfl rfl rfl TI22 (.r 0 rfl) rfl (len rfl)) <| ds <| sr <| va (op_fieldAddr FI27_5 rfl (add_at _ _ _)) <| va (op_load 1 1 rfl rfl TI22 rfl (by decide)) <| ?_
      replace h := bd h
      obtain ⟨t27028, hA27029, h⟩ := h
      refine sC (o_call_b0 FO14 (tarryref04_Whole.ok k r27016 v27019 t27028 hA27029) rfl rfl (ltn rfl) (All_of (.cons (.inr (.inl ⟨_, mG 0 rfl, rfl⟩)) .nil)) (by rintro _ _ _ ⟨rfl, rfl, rfl⟩; rfl)) <| ?_
      rintro _ _ _ ⟨rfl, rfl, rfl⟩
      refine vm rfl <| VL.letter ((t27028 != t27014)) fun b27030 hb27030 => va (op_cmps rfl rfl (congrArg some hb27030)) <| dt <| ?_
      replace h := iC h
      rcases h with ⟨c27031, h⟩ | ⟨c27031, h⟩
      · obtain rfl : b27030 = false := hb27030.symm.trans (bne_of_t c27031)
        refine cf <| sk <| sr <| va (op_load 3 2 rfl rfl TI25 rfl (fun h => absurd h (by decide))) <| va (op_fieldAddr FI27_0 rfl (add_at _ _ _)) <| s1 (o_store 1 2 rfl rfl rfl TI25 (.agg (.f 0 rfl (.f 1 rfl .nil))) rfl (len rfl)) <| nx <|
         va (op_load 1 7 rfl rfl TI27 rfl (fun h => absurd h (by decide))) <|
         va (op_build (vals := [(0, .agg #[v0_0, v0_1, iv t26983, iv t26984, iv t26985, v26994, v27019])]) (vcs := [(0, [v0_0, v0_1, iv t26983, iv t26984, iv t26985, v26994, v27019])]) (cells := [v0_0, v0_1, iv t26983, iv t26984, iv t26985, v26994, v27019, iv 0]) SI59 rfl (.cons ⟨rfl, (.agg (.f 0 rfl (.f 1 rfl (.c rfl (.c rfl (.c rfl (.r 3 rfl (.r 0 rfl .nil))))))))⟩ .nil) (by kernel_rfl)) <|
         s1 (o_store 2 8 rfl rfl rfl TI59 (.agg (.f 0 rfl (.f 1 rfl (.c rfl (.c rfl (.c rfl (.r 3 rfl (.r 0 rfl (.c rfl .nil))))))))) rfl (len rfl)) <| dt <| VC.ret <| ?_
        simp only [Option.some.injEq, Prod.mk.injEq] at h
        obtain ⟨rfl, rfl, rfl, rfl, rfl, rfl, rfl, rfl⟩ := h
        exact rf [.cell 2 59] [3, 0] (.cell 2 rfl rfl TI59 (fun h => absurd h (by decide)) .nil) ⟨v0_0, v0_1, v26994, v27019, rfl, rfl, rfl⟩
      obtain rfl : b27030 = true := hb27030.symm.trans (bne_of_f c27031)
      refine ct <| sr <| va (op_build (vals := [(1, iv 6)]) (vcs := [(1, [iv 6])]) (cells := [sn, sn, iv 0, iv 0, iv 0, sn, sn, iv 6]) SI59 rfl (.cons ⟨rfl, (.c rfl)⟩ .nil) (by kernel_rfl)) <|
       s1 (o_store 2 8 rfl rfl rfl TI59 (.agg (.of rfl)) rfl (len rfl)) <| dt <| VC.ret <| VR.then <| ?_
      simp only [Option.some.injEq, Prod.mk.injEq] at h
      obtain ⟨rfl, rfl, rfl, rfl, rfl, rfl, rfl, rfl⟩ := h
      exact VR.nilFact' 1 <| VR.nilFact' 2 <| VR.nilRow' 9 1 <| VR.nilRow' 9 1 <| rf [.cell 2 59] [1, 0] (.cell 2 rfl rfl TI59 (fun h => absurd h (by decide)) .nil) ⟨sn, sn, sn, sn, rfl, rfl, rfl⟩
    cases lF c27001 hb27000
    refine cf <| sk <| sq <| sr <| va (op_fieldAddr FI27_1 rfl (add_at _ _ _)) <| va (op_load 1 1 rfl rfl TI3 rfl (by decide)) <| VL.letter ((t26966 == 0)) fun b27042 hb27042 => va (op_cmp rfl rfl (congrArg some hb27042)) <| dt <| ?_
    replace h := iC h
    rcases h with ⟨c27043, h⟩ | ⟨c27043, h⟩
    · obtain rfl : b27042 = true := hb27042.symm.trans (beq_iff_eq.2 c27043)
      refine ct <| sr <| va (op_build (vals := [(1, iv 5)]) (vcs := [(1, [iv 5])]) (cells := [sn, sn, iv 0, iv 0, iv 0, sn, sn, iv 5]) SI59 rfl (.cons ⟨rfl, (.c rfl)⟩ .nil) (by kernel_rfl)) <|
       s1 (o_store 2 8 rfl rfl rfl TI59 (.agg (.of rfl)) rfl (len rfl)) <| dt <| VC.ret <| VR.then <| ?_
      simp only [Option.some.injEq, Prod.mk.injEq] at h
      obtain ⟨rfl, rfl, rfl, rfl, rfl, rfl, rfl, rfl⟩ := h
      exact VR.nilFact' 1 <| VR.nilFact' 2 <| VR.nilRow' 9 1 <| VR.nilRow' 9 1 <| rf [.cell 2 59] [1, 0] (.cell 2 rfl rfl TI59 (fun h => absurd h (by decide)) .nil) ⟨sn, sn, sn, sn, rfl, rfl, rfl⟩
    obtain rfl : b27042 = false := hb27042.symm.trans (beq_eq_false_iff_ne.2 c27043)
    refine cf <| sk <| sr <| va (op_load 3 2 rfl rfl TI25 rfl (fun h => absurd h (by decide))) <| va (op_fieldAddr FI27_2 rfl (add_at _ _ _)) <| va (op_load 1 1 rfl rfl TI3 rfl (by decide)) <| va (op_fieldAddr FI27_3 rfl (add_at _ _ _)) <| va (op_load 1 1 rfl rfl TI3 rfl (by decide)) <| ?_
    replace h := bd h
    obtain ⟨t27048, hA27049, h⟩ := h
    refine sC (o_call0 FO59 (tarryref05_Bytes.ok k l0_0 l0_1 t26967 t26968 v0_0 v0_1 t27048 hA27049) rfl rfl (ltn rfl) (All_of (.cons (mG 0 rfl) (.cons (mG 1 rfl) .nil)))) <| ?_
    rintro _ _ _ ⟨rfl, rfl, rfl⟩
    refine vs rfl <| nx <| vm rfl <| ?_
    replace h := bd h
    obtain ⟨r27050, hA27051, h⟩ := h
    refine sC (o_call0 FO60 (tarryref04_Scan.ok k t27048 r27050 hA27051) rfl rfl (ltn rfl) (All_of .nil)) <| ?_
    rintro v27053 _ _ ⟨_, rfl, rfl, rfl⟩
    refine va (op_fieldAddr FI27_5 rfl (add_at _ _ _)) <| s1 (o_store 1 1 rfl rfl rfl TI22 (.r 0 rfl) rfl (len rfl)) <| ds <| sr <| va (op_fieldAddr FI27_5 rfl (add_at _ _ _)) <| va (op_load 1 1 rfl rfl TI22 rfl (by decide)) <| ?_
    replace h := bd h
    obtain ⟨t27062, hA27063, h⟩ := h
    refine sC (o_call_b0 FO14 (tarryref04_Whole.ok k r27050 v27053 t27062 hA27063) rfl rfl (ltn rfl) (All_of (.cons (.inr (.inl ⟨_, mG 0 rfl, rfl⟩)) .nil)) (by rintro _ _ _ ⟨rfl, rfl, rfl⟩; rfl)) <| ?_
    rintro _ _ _ ⟨rfl, rfl, rfl⟩
    refine vm rfl <| VL.letter ((t27062 != t27048)) fun b27064 hb27064 => va (op_cmps rfl rfl (congrArg some hb27064)) <| dt <| ?_
    replace h := iC h
    rcases h with ⟨c27065, h⟩ | ⟨c27065, h⟩
    · obtain rfl : b27064 = false := hb27064.symm.trans (bne_of_t c27065)
      refine cf <| sk <| sr <| va (op_load 3 2 rfl rfl TI25 rfl (fun h => absurd h (by decide))) <| va (op_fieldAddr FI27_0 rfl (add_at _ _ _)) <| s1 (o_store 1 2 rfl rfl rfl TI25 (.agg (.f 0 rfl (.f 1 rfl .nil))) rfl (len rfl)) <| nx <|
       va (op_load 1 7 rfl rfl TI27 rfl (fun h => absurd h (by decide))) <|
       va (op_build (vals := [(0, .agg #[v0_0, v0_1, iv t26966, iv t26967, iv t26968, v26977, v27053])]) (vcs := [(0, [v0_0, v0_1, iv t26966, iv t26967, iv t26968, v26977, v27053])]) (cells := [v0_0, v0_1, iv t26966, iv t26967, iv t26968, v26977, v27053, iv 0]) SI59 rfl (.cons ⟨rfl, (.agg (.f 0 rfl (.f 1 rfl (.c rfl (.c rfl (.c rfl (.r 7 rfl (.r 0 rfl .nil))))))))⟩ .nil) (by kernel_rfl)) <|
       s1 (o_store 2 8 rfl rfl rfl TI59 (.agg (.f 0 rfl (.f 1 rfl (.c rfl (.c rfl (.c rfl (.r 7 rfl (.r 0 rfl (.c rfl .nil))))))))) rfl (len rfl)) <| dt <| VC.ret <| ?_
      simp only [Option.some.injEq, Prod.mk.injEq] at h
      obtain ⟨rfl, rfl, rfl, rfl, rfl, rfl, rfl, rfl⟩ := h
      exact rf [.cell 2 59] [7, 0] (.cell 2 rfl rfl TI59 (fun h => absurd h (by decide)) .nil) ⟨v0_0, v0_1, v26977, v27053, rfl, rfl, rfl⟩
    obtain rfl : b27064 = true := hb27064.symm.trans (bne_of_f c27065)
    refine ct <| sr <| va (op_build (vals := [(1, iv 6)]) (vcs := [(1, [iv 6])]) (cells := [sn, sn, iv 0, iv 0, iv 0, sn, sn, iv 6]) SI59 rfl (.cons ⟨rfl, (.c rfl)⟩ .nil) (by kernel_rfl)) <|
     s1 (o_store 2 8 rfl rfl rfl TI59 (.agg (.of rfl)) rfl (len rfl)) <| dt <| VC.ret <| VR.then <| ?_
    simp only [Option.some.injEq, Prod.mk.injEq] at h
    obtain ⟨rfl, rfl, rfl, rfl, rfl, rfl, rfl, rfl⟩ := h
    exact VR.nilFact' 1 <| VR.nilFact' 2 <| VR.nilRow' 9 1 <| VR.nilRow' 9 1 <| rf [.cell 2 59] [1, 0] (.cell 2 rfl rfl TI59 (fun h => absurd h (by decide)) .nil) ⟨sn, sn, sn, sn, rfl, rfl, rfl⟩
  obtain rfl := Bool.eq_false_iff.2 c26951
  refine va (op_not rfl rfl) <| vm rfl <| un rfl <| un rfl <| un rfl <| un rfl <| va (op_pick rfl rfl) <| vm rfl <| un rfl <| un rfl <| un rfl <| un rfl <| va (op_pick rfl rfl) <| dt <| ct <| sr <|
   va (op_build (vals := [(1, iv 1)]) (vcs := [(1, [iv 1])]) (cells := [sn, sn, iv 0, iv 0, iv 0, sn, sn, iv 1]) SI59 rfl (.cons ⟨rfl, (.c rfl)⟩ .nil) (by kernel_rfl)) <|
   s1 (o_store 0 8 rfl rfl rfl TI59 (.agg (.of rfl)) rfl (len rfl)) <| dt <| VC.ret <| VR.then <| ?_
  simp only [Option.some.injEq, Prod.mk.injEq] at h
  obtain ⟨rfl, rfl, rfl, rfl, rfl, rfl, rfl, rfl⟩ := h
  exact VR.nilFact' 1 <| VR.nilFact' 2 <| VR.nilRow' 9 1 <| VR.nilRow' 9 1 <| rf [.cell 2 59] [1, 0] (.cell 0 rfl rfl TI59 (fun h => absurd h (by decide)) .nil) ⟨sn, sn, sn, sn, rfl, rfl, rfl⟩

theorem tarryref01_Same.ok (k : Nat) (l0 : List ByteArray) (l1 : List ByteArray) (v0 : Value) (v1 : Value) (r1 : Bool) (h : tarryref01_Same.f k l0 l1 = some r1) :
    VCalls Tryz.prog 33 [v0, v1] [.row v0 1 (l0.map enc_str), .row v1 1 (l1.map enc_str)] (fun v G own => v = .bool r1 ∧ G = [] ∧ own = []) := by
  refine VCalls.intro Tryz.func33 rfl (len rfl) fun E hC hW hD hU => ?_
  unfold tarryref01_Same.f at h
  refine sr <| vs rfl <| ds <| sr <| vm rfl <| va (op_len (m := l0.length) 0 lenm Tryz.underlying22 rfl rfl) <| vm rfl <| va (op_len (m := l1.length) 1 lenm Tryz.underlying22 rfl rfl) <|
   VL.letter (((l0.length : Int) != (l1.length : Int))) fun b27104 hb27104 => va (op_cmp rfl rfl (congrArg some hb27104)) <| dt <| ?_
  replace h := iC h
  rcases h with ⟨c27105, h⟩ | ⟨c27105, h⟩
  · obtain rfl : b27104 = false := hb27104.symm.trans (bne_eq_false_iff_eq.2 c27105)
    refine cf <| sk <| sq <| sr <| vm rfl <| va (op_len (m := l0.length) 0 lenm Tryz.underlying22 rfl rfl) <| vm rfl <| dt <| VC.block <|
     VC.loop1 (fun (i27159 : Int) => ⟨26, [(0, v0), (1, v1), (4, .bool false), (12, iv (l0.length : Int)), (13, iv i27159)], [.row v0 1 (l0.map enc_str), .row v1 1 (l1.map enc_str)], [], []⟩) (fun (ml1 : Nat) (i27159 : Int) => tarryref01_Same.l1 k l0 l1 ml1 i27159 = some r1) k 0 [] [] h ⟨rfl, ⟨rfl, rfl, rfl, rfl, rfl, trivial⟩, ⟨⟨0, rfl⟩, ⟨1, rfl⟩, trivial⟩, rfl, by decide, rfl, by decide⟩ (by intros; simp [tarryref01_Same.l1]) <|
     ?_
    clear h
    intro ml1 ihl1 i27159 h
    simp only [tarryref01_Same.l1] at h
    refine sr <| VL.letter (decide (i27159 < (l0.length : Int))) fun b27173 hb27173 => va (op_cmp rfl rfl (congrArg some hb27173)) <| ds <| ?_
    replace h := iC h
    rcases h with ⟨c27175, h⟩ | ⟨c27175, h⟩
    · cases lT c27175 hb27173
      refine ct <| sk <| sq <| VC.block <| sr <| vm rfl <| vs rfl <| dt <| ?_
      replace h := iN h
      obtain ⟨c27181, h⟩ := h
      replace h := bd h
      obtain ⟨x27182, hx27182, h⟩ := h
      replace h := bd h
      obtain ⟨x27183, hx27183, h⟩ := h
      refine VC.letter ((x27182 != x27183)) fun b27184 hb27184 => VC.open (m := l0.length) 0 lenm rfl (pos_get hx27182) <| ?_
      rintro ad27110 n27111 rfl
      refine VC.open (m := l1.length) 1 lenm rfl (pos_get hx27183) <| ?_
      rintro ad27113 n27114 rfl
      refine VC.join0 (⟨26, [(0, (.slice (some ad27110) l0.length n27111)), (1, (.slice (some ad27113) l1.length n27114)), (4, .bool false), (5, iv i27159), (12, iv (l0.length : Int)), (13, iv i27159), (14, .bool true), (15, iv i27159), (16, (.slice (some ad27110) l0.length n27111)), (17, iv i27159), (19, .string x27182), (20, (.slice (some ad27113) l1.length n27114)), (21, iv i27159), (23, .string x27183), (24, .bool b27184)], [.row (.slice (some ad27110) l0.length n27111) 1 (l0.map enc_str), .row (.slice (some ad27113) l1.length n27114) 1 (l1.map enc_str)], [], []⟩) (True) ?_ ?_
      · exact dw ⟨0, [], [.row (.slice (some ad27110) l0.length n27111) 1 (l0.map enc_str), .row (.slice (some ad27113) l1.length n27114) 1 (l1.map enc_str)], [], []⟩ 9 <| av 0 1 rfl (mv rfl) <| av 1 3 rfl (mv rfl) <|
         av 2 7 rfl (op_indexAddr Tryz.underlying22 TI9 rfl rfl c27181 (lt_get c27181 hx27182) rfl) <| av 3 15 rfl (op_load_row (sz := 1) (o := 0) 0 i27159.toNat 1 rfl rfl (get_map hx27182) TI9 rfl (by decide)) <| av 4 31 rfl (mv rfl) <| av 5 63 rfl (mv rfl) <|
         av 6 127 rfl (op_indexAddr Tryz.underlying22 TI9 rfl rfl c27181 (lt_get c27181 hx27183) rfl) <| av 7 255 rfl (op_load_row (sz := 1) (o := 0) 1 i27159.toNat 1 rfl rfl (get_map hx27183) TI9 rfl (by decide)) <| av 8 511 rfl (op_cmps rfl rfl (congrArg some hb27184)) <| ad <| VN.meet0 [] [] trivial
      intro _
      replace h := iC h
      rcases h with ⟨c27185, h⟩ | ⟨c27185, h⟩
      · obtain rfl : b27184 = false := hb27184.symm.trans (bne_of_t c27185)
        refine cf <| VC.skip <| VN.block <| tr <| va (op_ari64 rfl rfl rfl) <| vm rfl <| dn <| VN.again [] [] (ihl1 (wrap64 (i27159 + 1)) h)
      obtain rfl : b27184 = true := hb27184.symm.trans (bne_of_f c27185)
      refine ct <| sr <| vs rfl <| dt <| VC.ret <| VR.block <| VR.then <| VR.then <| VR.block <| VR.then <| ?_
      obtain rfl := Option.some.inj h
      exact rq 4 rfl ⟨rfl, rfl, rfl⟩
    cases lF c27175 hb27173
    refine cf <| VC.exit <| VX.then <| VX.then <| VX.hit <| tx <| vs rfl <| dt <| VC.ret <| ?_
    obtain rfl := Option.some.inj h
    exact rq 4 rfl ⟨rfl, rfl, rfl⟩
  obtain rfl : b27104 = true := hb27104.symm.trans (bne_iff_ne.2 c27105)
  refine ct <| sr <| vs rfl <| dt <| VC.ret <| VR.then <| ?_
  obtain rfl := Option.some.inj h
  exact rq 4 rfl ⟨rfl, rfl, rfl⟩

end Go.Proofs.YtipeglbeongfmaaGreat.PJournalCrashes
