/- Written by a program of this repo: what the program's functions do, each as a Lean function, shown of the loaded code; or a statement's row over that; no condition of its own. -/
import Derived.Test.YtipeglbeongfmaaGreatPJournalSealsx15
namespace Go.Proofs.YtipeglbeongfmaaGreat.PJournalSeals
open Go Go.RowKit Go.Proofs.YtipeglbeongfmaaGreatV
set_option linter.unusedVariables false
set_option linter.unusedSimpArgs false
set_option maxHeartbeats 4000000
set_option maxRecDepth 100000

theorem tarryref05_Open.ok (k : Nat) (l0_0 : List ByteArray) (l0_1 : List S71) (v0_0 : Value) (v0_1 : Value) (r1 : List ByteArray) (r2 : List S71) (r3 : Int) (r4 : Int) (r5 : Int) (r6 : List ByteArray) (r7 : List ByteArray) (r8 : Int) (h : tarryref05_Open.f k l0_0 l0_1 = some (r1, r2, r3, r4, r5, r6, r7, r8)) :
    VCalls Tryz.prog 32 [.agg #[v0_0, v0_1]] [.row v0_0 1 (l0_0.map enc_str), .row v0_1 2 (l0_1.map enc71)] (fun v G own => ∃ w0 w1 w5 w6 : Value, v = .agg #[w0, w1, iv r3, iv r4, iv r5, w5, w6, iv r8] ∧ G = [.row w0 1 (r1.map enc_str), .row w1 2 (r2.map enc71)] ∧ own = [(w5, 9, 1, r6.map enc_str), (w6, 9, 1, r7.map enc_str)]) := by
  refine VCalls.intro Tryz.func32 rfl (len rfl) fun E hC hW hD hU => ?_
  unfold tarryref05_Open.f at h
  refine sr <| sG (o_box rfl (.agg (.f 0 rfl (.f 1 rfl .nil)))) fun g27045 => sG (o_alloc Z59 ZL59) fun g27046 => ds <| sr <| va (op_load 1 2 rfl rfl TI25 rfl (fun h => absurd h (by decide))) <| ?_
  replace h := bd h
  obtain ⟨t27078, hA27079, h⟩ := h
  refine sC (o_call0 FO57 (tarryref03_Right.ok k l0_0 l0_1 v0_0 v0_1 t27078 hA27079) rfl rfl (ltn rfl) (All_of (.cons (mG 0 rfl) (.cons (mG 1 rfl) .nil)))) <| ?_
  rintro _ _ _ ⟨rfl, rfl, rfl⟩
  replace h := iC h
  rcases h with ⟨c27080, h⟩ | ⟨c27080, h⟩
  · obtain rfl := c27080
    refine va (op_not rfl rfl) <| vm rfl <| va (op_fieldAddr FI25_0 rfl (add_at _ _ _)) <| va (op_load 1 1 rfl rfl TI22 rfl (by decide)) <| va (op_len (m := l0_0.length) 0 lenm Tryz.underlying22 rfl rfl) <|
     VL.letter (decide ((l0_0.length : Int) < 8)) fun b27081 hb27081 => va (op_cmp rfl rfl (congrArg some hb27081)) <| va (op_pick rfl rfl) <| vm rfl <| ?_
    replace h := iC h
    rcases h with ⟨c27082, h⟩ | ⟨c27082, h⟩
    · cases lT c27082 hb27081
      refine un rfl <| un rfl <| un rfl <| un rfl <| va (op_pick rfl rfl) <| dt <| ct <| sr <|
       va (op_build (vals := [(1, iv 1)]) (vcs := [(1, [iv 1])]) (cells := [sn, sn, iv 0, iv 0, iv 0, sn, sn, iv 1]) SI59 rfl (.cons ⟨rfl, (.c rfl)⟩ .nil) (by kernel_rfl)) <|
       s1 (o_store 0 8 rfl rfl rfl TI59 (.agg (.of rfl)) rfl (len rfl)) <| dt <| VC.ret <| VR.then <| ?_
      simp only [Option.some.injEq, Prod.mk.injEq] at h
      obtain ⟨rfl, rfl, rfl, rfl, rfl, rfl, rfl, rfl⟩ := h
      exact VR.nilFact' 1 <| VR.nilFact' 2 <| VR.nilRow' 9 1 <| VR.nilRow' 9 1 <| rf [.cell 2 59] [1, 0] (.cell 0 rfl rfl TI59 (fun h => absurd h (by decide)) .nil) ⟨sn, sn, sn, sn, rfl, rfl, rfl⟩
    cases lF c27082 hb27081
    refine va (op_fieldAddr FI25_1 rfl (add_at _ _ _)) <| va (op_load 1 1 rfl rfl TI23 rfl (by decide)) <| va (op_len (m := l0_1.length) 1 lenm Tryz.underlying23 rfl rfl) <| VL.letter (decide ((l0_1.length : Int) > 0)) fun b27087 hb27087 => va (op_cmp rfl rfl (congrArg some hb27087)) <|
     va (op_pick rfl rfl) <| dt <| ?_
    replace h := iC h
    rcases h with ⟨c27088, h⟩ | ⟨c27088, h⟩
    · cases lT c27088 hb27087
      refine ct <| sr <| va (op_build (vals := [(1, iv 1)]) (vcs := [(1, [iv 1])]) (cells := [sn, sn, iv 0, iv 0, iv 0, sn, sn, iv 1]) SI59 rfl (.cons ⟨rfl, (.c rfl)⟩ .nil) (by kernel_rfl)) <|
       s1 (o_store 0 8 rfl rfl rfl TI59 (.agg (.of rfl)) rfl (len rfl)) <| dt <| VC.ret <| VR.then <| ?_
      simp only [Option.some.injEq, Prod.mk.injEq] at h
      obtain ⟨rfl, rfl, rfl, rfl, rfl, rfl, rfl, rfl⟩ := h
      exact VR.nilFact' 1 <| VR.nilFact' 2 <| VR.nilRow' 9 1 <| VR.nilRow' 9 1 <| rf [.cell 2 59] [1, 0] (.cell 0 rfl rfl TI59 (fun h => absurd h (by decide)) .nil) ⟨sn, sn, sn, sn, rfl, rfl, rfl⟩
    cases lF c27088 hb27087
    refine cf <| sk <| sr <| va (op_load 1 2 rfl rfl TI25 rfl (fun h => absurd h (by decide))) <| ?_
    replace h := bd h
    obtain ⟨⟨r27093, r27094, t27095, t27096, t27097, r27098, r27099⟩, hA27100, h⟩ := h
    dsimp only at h
    refine sC (o_call0 FO58 (tarryref05_read.ok k l0_0 l0_1 0 v0_0 v0_1 r27093 r27094 t27095 t27096 t27097 r27098 r27099 hA27100) rfl rfl (ltn rfl) (All_of (.cons (mG 0 rfl) (.cons (mG 1 rfl) .nil)))) <| ?_
    rintro _ _ _ ⟨v27102, v27104, v27106, v27108, rfl, rfl, rfl⟩
    refine sG (o_alloc Z27 ZL27) fun g27109 => s1 (o_store 0 7 rfl rfl rfl TI27 (.agg (.r 0 rfl (.r 1 rfl (.c rfl (.c rfl (.c rfl (.r 2 rfl (.r 3 rfl .nil)))))))) rfl (len rfl)) <| nx <| va (op_load 2 2 rfl rfl TI25 rfl (fun h => absurd h (by decide))) <| ?_
    replace h := bd h
    obtain ⟨⟨r27110, r27111, t27112, t27113, t27114, r27115, r27116⟩, hA27117, h⟩ := h
    dsimp only at h
    refine sC (o_call0 FO58 (tarryref05_read.ok k l0_0 l0_1 1 v0_0 v0_1 r27110 r27111 t27112 t27113 t27114 r27115 r27116 hA27117) rfl rfl (ltn rfl) (All_of (.cons (mG 0 rfl) (.cons (mG 1 rfl) .nil)))) <| ?_
    rintro _ _ _ ⟨v27119, v27121, v27123, v27125, rfl, rfl, rfl⟩
    refine sG (o_alloc Z27 ZL27) fun g27126 => s1 (o_store 0 7 rfl rfl rfl TI27 (.agg (.r 0 rfl (.r 1 rfl (.c rfl (.c rfl (.c rfl (.r 2 rfl (.r 3 rfl .nil)))))))) rfl (len rfl)) <| ds <| sr <| va (op_fieldAddr FI27_1 rfl (add_at _ _ _)) <| va (op_load 0 1 rfl rfl TI3 rfl (by decide)) <|
     va (op_fieldAddr FI27_1 rfl (add_at _ _ _)) <| va (op_load 1 1 rfl rfl TI3 rfl (by decide)) <| VL.letter (decide (t27112 > t27095)) fun b27129 hb27129 => va (op_cmp rfl rfl (congrArg some hb27129)) <| dt <| ?_
    replace h := iC h
    rcases h with ⟨c27130, h⟩ | ⟨c27130, h⟩
    · cases lT c27130 hb27129
      refine ct <| rg <| va (op_load 0 7 rfl rfl TI27 rfl (fun h => absurd h (by decide))) <| s1 (o_store 1 7 rfl rfl rfl TI27 (.agg (.r 0 rfl (.r 1 rfl (.c rfl (.c rfl (.c rfl (.r 2 rfl (.r 3 rfl .nil)))))))) rfl (len rfl)) <| ds <| sr <| va (op_fieldAddr FI27_1 rfl (add_at _ _ _)) <|
       va (op_load 1 1 rfl rfl TI3 rfl (by decide)) <| VL.letter ((t27112 == 0)) fun b27137 hb27137 => va (op_cmp rfl rfl (congrArg some hb27137)) <| dt <| ?_
      replace h := iC h
      rcases h with ⟨c27138, h⟩ | ⟨c27138, h⟩
      · obtain rfl : b27137 = true := hb27137.symm.trans (beq_iff_eq.2 c27138)
        refine ct <| sr <| va (op_build (vals := [(1, iv 5)]) (vcs := [(1, [iv 5])]) (cells := [sn, sn, iv 0, iv 0, iv 0, sn, sn, iv 5]) SI59 rfl (.cons ⟨rfl, (.c rfl)⟩ .nil) (by kernel_rfl)) <|
         s1 (o_store 2 8 rfl rfl rfl TI59 (.agg (.of rfl)) rfl (len rfl)) <| dt <| VC.ret <| VR.then <| ?_
        simp only [Option.some.injEq, Prod.mk.injEq] at h
        obtain ⟨rfl, rfl, rfl, rfl, rfl, rfl, rfl, rfl⟩ := h
        exact VR.nilFact' 1 <| VR.nilFact' 2 <| VR.nilRow' 9 1 <| VR.nilRow' 9 1 <| rf [.cell 2 59] [1, 0] (.cell 2 rfl rfl TI59 (fun h => absurd h (by decide)) .nil) ⟨sn, sn, sn, sn, rfl, rfl, rfl⟩
      obtain rfl : b27137 = false := hb27137.symm.trans (beq_eq_false_iff_ne.2 c27138)
      refine cf <| sk <| sr <| va (op_load 3 2 rfl rfl TI25 rfl (fun h => absurd h (by decide))) <| va (op_fieldAddr FI27_2 rfl (add_at _ _ _)) <| va (op_load 1 1 rfl rfl TI3 rfl (by decide)) <| va (op_fieldAddr FI27_3 rfl (add_at _ _ _)) <| va (op_load 1 1 rfl rfl TI3 rfl (by decide)) <| ?_
      replace h := bd h
      obtain ⟨t27143, hA27144, h⟩ := h
      refine sC (o_call0 FO59 (tarryref05_Bytes.ok k l0_0 l0_1 t27113 t27114 v0_0 v0_1 t27143 hA27144) rfl rfl (ltn rfl) (All_of (.cons (mG 0 rfl) (.cons (mG 1 rfl) .nil)))) <| ?_
      rintro _ _ _ ⟨rfl, rfl, rfl⟩
      refine vs rfl <| nx <| vm rfl <| ?_
      replace h := bd h
      obtain ⟨r27145, hA27146, h⟩ := h
      refine sC (o_call0 FO60 (tarryref04_Scan.ok k t27143 r27145 hA27146) rfl rfl (ltn rfl) (All_of .nil)) <| ?_
      rintro v27148 _ _ ⟨_, rfl, rfl, rfl⟩
      refine va (op_fieldAddr FI27_5 rfl (add_at _ _ _)) <| s1 (o_store 1 1 rfl rfl rfl TI22 (.r 0 rfl) rfl (len rfl)) <| ds <| sr <| va (op_fieldAddr FI27_5 rfl (add_at _ _ _)) <| va (op_load 1 1 rfl rfl TI22 rfl (by decide)) <| ?_
      replace h := bd h
      obtain ⟨t27157, hA27158, h⟩ := h
      refine sC (o_call_b0 FO14 (tarryref04_Whole.ok k r27145 v27148 t27157 hA27158) rfl rfl (ltn rfl) (All_of (.cons (.inr (.inl ⟨_, mG 0 rfl, rfl⟩)) .nil)) (by rintro _ _ _ ⟨rfl, rfl, rfl⟩; rfl)) <| ?_
      rintro _ _ _ ⟨rfl, rfl, rfl⟩
      refine vm rfl <| VL.letter ((t27157 != t27143)) fun b27159 hb27159 => va (op_cmps rfl rfl (congrArg some hb27159)) <| dt <| ?_
      replace h := iC h
      rcases h with ⟨c27160, h⟩ | ⟨c27160, h⟩
      · obtain rfl : b27159 = false := hb27159.symm.trans (bne_of_t c27160)
        refine cf <| sk <| sr <| va (op_load 3 2 rfl rfl TI25 rfl (fun h => absurd h (by decide))) <| va (op_fieldAddr FI27_0 rfl (add_at _ _ _)) <| s1 (o_store 1 2 rfl rfl rfl TI25 (.agg (.f 0 rfl (.f 1 rfl .nil))) rfl (len rfl)) <| nx <|
         va (op_load 1 7 rfl rfl TI27 rfl (fun h => absurd h (by decide))) <|
         va (op_build (vals := [(0, .agg #[v0_0, v0_1, iv t27112, iv t27113, iv t27114, v27123, v27148])]) (vcs := [(0, [v0_0, v0_1, iv t27112, iv t27113, iv t27114, v27123, v27148])]) (cells := [v0_0, v0_1, iv t27112, iv t27113, iv t27114, v27123, v27148, iv 0]) SI59 rfl (.cons ⟨rfl, (.agg (.f 0 rfl (.f 1 rfl (.c rfl (.c rfl (.c rfl (.r 3 rfl (.r 0 rfl .nil))))))))⟩ .nil) (by kernel_rfl)) <|
         s1 (o_store 2 8 rfl rfl rfl TI59 (.agg (.f 0 rfl (.f 1 rfl (.c rfl (.c rfl (.c rfl (.r 3 rfl (.r 0 rfl (.c rfl .nil))))))))) rfl (len rfl)) <| dt <| VC.ret <| ?_
        simp only [Option.some.injEq, Prod.mk.injEq] at h
        obtain ⟨rfl, rfl, rfl, rfl, rfl, rfl, rfl, rfl⟩ := h
        exact rf [.cell 2 59] [3, 0] (.cell 2 rfl rfl TI59 (fun h => absurd h (by decide)) .nil) ⟨v0_0, v0_1, v27123, v27148, rfl, rfl, rfl⟩
      obtain rfl : b27159 = true := hb27159.symm.trans (bne_of_f c27160)
      refine ct <| sr <| va (op_build (vals := [(1, iv 6)]) (vcs := [(1, [iv 6])]) (cells := [sn, sn, iv 0, iv 0, iv 0, sn, sn, iv 6]) SI59 rfl (.cons ⟨rfl, (.c rfl)⟩ .nil) (by kernel_rfl)) <|
       s1 (o_store 2 8 rfl rfl rfl TI59 (.agg (.of rfl)) rfl (len rfl)) <| dt <| VC.ret <| VR.then <| ?_
      simp only [Option.some.injEq, Prod.mk.injEq] at h
      obtain ⟨rfl, rfl, rfl, rfl, rfl, rfl, rfl, rfl⟩ := h
      exact VR.nilFact' 1 <| VR.nilFact' 2 <| VR.nilRow' 9 1 <| VR.nilRow' 9 1 <| rf [.cell 2 59] [1, 0] (.cell 2 rfl rfl TI59 (fun h => absurd h (by decide)) .nil) ⟨sn, sn, sn, sn, rfl, rfl, rfl⟩
    cases lF c27130 hb27129
    refine cf <| sk <| sq <| sr <| va (op_fieldAddr FI27_1 rfl (add_at _ _ _)) <| va (op_load 1 1 rfl rfl TI3 rfl (by decide)) <| VL.letter ((t27095 == 0)) fun b27171 hb27171 => va (op_cmp rfl rfl (congrArg some hb27171)) <| dt <| ?_
    replace h := iC h
    rcases h with ⟨c27172, h⟩ | ⟨c27172, h⟩
    · obtain rfl : b27171 = true := hb27171.symm.trans (beq_iff_eq.2 c27172)
      refine ct <| sr <| va (op_build (vals := [(1, iv 5)]) (vcs := [(1, [iv 5])]) (cells := [sn, sn, iv 0, iv 0, iv 0, sn, sn, iv 5]) SI59 rfl (.cons ⟨rfl, (.c rfl)⟩ .nil) (by kernel_rfl)) <|
       s1 (o_store 2 8 rfl rfl rfl TI59 (.agg (.of rfl)) rfl (len rfl)) <| dt <| VC.ret <| VR.then <| ?_
      simp only [Option.some.injEq, Prod.mk.injEq] at h
      obtain ⟨rfl, rfl, rfl, rfl, rfl, rfl, rfl, rfl⟩ := h
      exact VR.nilFact' 1 <| VR.nilFact' 2 <| VR.nilRow' 9 1 <| VR.nilRow' 9 1 <| rf [.cell 2 59] [1, 0] (.cell 2 rfl rfl TI59 (fun h => absurd h (by decide)) .nil) ⟨sn, sn, sn, sn, rfl, rfl, rfl⟩
    obtain rfl : b27171 = false := hb27171.symm.trans (beq_eq_false_iff_ne.2 c27172)
    refine cf <| sk <| sr <| va (op_load 3 2 rfl rfl TI25 rfl (fun h => absurd h (by decide))) <| va (op_fieldAddr FI27_2 rfl (add_at _ _ _)) <| va (op_load 1 1 rfl rfl TI3 rfl (by decide)) <| va (op_fieldAddr FI27_3 rfl (add_at _ _ _)) <| va (op_load 1 1 rfl rfl TI3 rfl (by decide)) <| ?_
    replace h := bd h
    obtain ⟨t27177, hA27178, h⟩ := h
    refine sC (o_call0 FO59 (tarryref05_Bytes.ok k l0_0 l0_1 t27096 t27097 v0_0 v0_1 t27177 hA27178) rfl rfl (ltn rfl) (All_of (.cons (mG 0 rfl) (.cons (mG 1 rfl) .nil)))) <| ?_
    rintro _ _ _ ⟨rfl, rfl, rfl⟩
    refine vs rfl <| nx <| vm rfl <| ?_
    replace h := bd h
    obtain ⟨r27179, hA27180, h⟩ := h
    refine sC (o_call0 FO60 (tarryref04_Scan.ok k t27177 r27179 hA27180) rfl rfl (ltn rfl) (All_of .nil)) <| ?_
    rintro v27182 _ _ ⟨_, rfl, rfl, rfl⟩
    refine va (op_fieldAddr FI27_5 rfl (add_at _ _ _)) <| s1 (o_store 1 1 rfl rfl rfl TI22 (.r 0 rfl) rfl (len rfl)) <| ds <| sr <| va (op_fieldAddr FI27_5 rfl (add_at _ _ _)) <| va (op_load 1 1 rfl rfl TI22 rfl (by decide)) <| ?_
    replace h := bd h
    obtain ⟨t27191, hA27192, h⟩ := h
    refine sC (o_call_b0 FO14 (tarryref04_Whole.ok k r27179 v27182 t27191 hA27192) rfl rfl (ltn rfl) (All_of (.cons (.inr (.inl ⟨_, mG 0 rfl, rfl⟩)) .nil)) (by rintro _ _ _ ⟨rfl, rfl, rfl⟩; rfl)) <| ?_
    rintro _ _ _ ⟨rfl, rfl, rfl⟩
    refine vm rfl <| VL.letter ((t27191 != t27177)) fun b27193 hb27193 => va (op_cmps rfl rfl (congrArg some hb27193)) <| dt <| ?_
    replace h := iC h
    rcases h with ⟨c27194, h⟩ | ⟨c27194, h⟩
    · obtain rfl : b27193 = false := hb27193.symm.trans (bne_of_t c27194)
      refine cf <| sk <| sr <| va (op_load 3 2 rfl rfl TI25 rfl (fun h => absurd h (by decide))) <| va (op_fieldAddr FI27_0 rfl (add_at _ _ _)) <| s1 (o_store 1 2 rfl rfl rfl TI25 (.agg (.f 0 rfl (.f 1 rfl .nil))) rfl (len rfl)) <| nx <|
       va (op_load 1 7 rfl rfl TI27 rfl (fun h => absurd h (by decide))) <|
       va (op_build (vals := [(0, .agg #[v0_0, v0_1, iv t27095, iv t27096, iv t27097, v27106, v27182])]) (vcs := [(0, [v0_0, v0_1, iv t27095, iv t27096, iv t27097, v27106, v27182])]) (cells := [v0_0, v0_1, iv t27095, iv t27096, iv t27097, v27106, v27182, iv 0]) SI59 rfl (.cons ⟨rfl, (.agg (.f 0 rfl (.f 1 rfl (.c rfl (.c rfl (.c rfl (.r 7 rfl (.r 0 rfl .nil))))))))⟩ .nil) (by kernel_rfl)) <|
       s1 (o_store 2 8 rfl rfl rfl TI59 (.agg (.f 0 rfl (.f 1 rfl (.c rfl (.c rfl (.c rfl (.r 7 rfl (.r 0 rfl (.c rfl .nil))))))))) rfl (len rfl)) <| dt <| VC.ret <| ?_
      simp only [Option.some.injEq, Prod.mk.injEq] at h
      obtain ⟨rfl, rfl, rfl, rfl, rfl, rfl, rfl, rfl⟩ := h
      exact rf [.cell 2 59] [7, 0] (.cell 2 rfl rfl TI59 (fun h => absurd h (by decide)) .nil) ⟨v0_0, v0_1, v27106, v27182, rfl, rfl, rfl⟩
    obtain rfl : b27193 = true := hb27193.symm.trans (bne_of_f c27194)
    refine ct <| sr <| va (op_build (vals := [(1, iv 6)]) (vcs := [(1, [iv 6])]) (cells := [sn, sn, iv 0, iv 0, iv 0, sn, sn, iv 6]) SI59 rfl (.cons ⟨rfl, (.c rfl)⟩ .nil) (by kernel_rfl)) <|
     s1 (o_store 2 8 rfl rfl rfl TI59 (.agg (.of rfl)) rfl (len rfl)) <| dt <| VC.ret <| VR.then <| ?_
    simp only [Option.some.injEq, Prod.mk.injEq] at h
    obtain ⟨rfl, rfl, rfl, rfl, rfl, rfl, rfl, rfl⟩ := h
    exact VR.nilFact' 1 <| VR.nilFact' 2 <| VR.nilRow' 9 1 <| VR.nilRow' 9 1 <| rf [.cell 2 59] [1, 0] (.cell 2 rfl rfl TI59 (fun h => absurd h (by decide)) .nil) ⟨sn, sn, sn, sn, rfl, rfl, rfl⟩
  obtain rfl := Bool.eq_false_iff.2 c27080
  refine va (op_not rfl rfl) <| vm rfl <| un rfl <| un rfl <| un rfl <| un rfl <| va (op_pick rfl rfl) <| vm rfl <| un rfl <| un rfl <| un rfl <| un rfl <| va (op_pick rfl rfl) <| dt <| ct <| sr <|
   va (op_build (vals := [(1, iv 1)]) (vcs := [(1, [iv 1])]) (cells := [sn, sn, iv 0, iv 0, iv 0, sn, sn, iv 1]) SI59 rfl (.cons ⟨rfl, (.c rfl)⟩ .nil) (by kernel_rfl)) <|
   s1 (o_store 0 8 rfl rfl rfl TI59 (.agg (.of rfl)) rfl (len rfl)) <| dt <| VC.ret <| VR.then <| ?_
  simp only [Option.some.injEq, Prod.mk.injEq] at h
  obtain ⟨rfl, rfl, rfl, rfl, rfl, rfl, rfl, rfl⟩ := h
  exact VR.nilFact' 1 <| VR.nilFact' 2 <| VR.nilRow' 9 1 <| VR.nilRow' 9 1 <| rf [.cell 2 59] [1, 0] (.cell 0 rfl rfl TI59 (fun h => absurd h (by decide)) .nil) ⟨sn, sn, sn, sn, rfl, rfl, rfl⟩

theorem tarryref01_Same.ok (k : Nat) (l0 : List ByteArray) (l1 : List ByteArray) (v0 : Value) (v1 : Value) (r1 : Bool) (h : tarryref01_Same.f k l0 l1 = some r1) :
    VCalls Tryz.prog 33 [v0, v1] [.row v0 1 (l0.map enc_str), .row v1 1 (l1.map enc_str)] (fun v G own => v = .bool r1 ∧ G = [] ∧ own = []) := by
  refine VCalls.intro Tryz.func33 rfl (len rfl) fun E hC hW hD hU => ?_
  unfold tarryref01_Same.f at h
  refine sr <| vs rfl <| ds <| sr <| vm rfl <| va (op_len (m := l0.length) 0 lenm Tryz.underlying22 rfl rfl) <| vm rfl <| va (op_len (m := l1.length) 1 lenm Tryz.underlying22 rfl rfl) <|
   VL.letter (((l0.length : Int) != (l1.length : Int))) fun b27233 hb27233 => va (op_cmp rfl rfl (congrArg some hb27233)) <| dt <| ?_
  replace h := iC h
  rcases h with ⟨c27234, h⟩ | ⟨c27234, h⟩
  · obtain rfl : b27233 = false := hb27233.symm.trans (bne_eq_false_iff_eq.2 c27234)
    refine cf <| sk <| sq <| sr <| vm rfl <| va (op_len (m := l0.length) 0 lenm Tryz.underlying22 rfl rfl) <| vm rfl <| dt <| VC.block <|
     VC.loop1 (fun (i27288 : Int) => ⟨26, [(0, v0), (1, v1), (4, .bool false), (12, iv (l0.length : Int)), (13, iv i27288)], [.row v0 1 (l0.map enc_str), .row v1 1 (l1.map enc_str)], [], []⟩) (fun (ml1 : Nat) (i27288 : Int) => tarryref01_Same.l1 k l0 l1 ml1 i27288 = some r1) k 0 [] [] h ⟨rfl, ⟨rfl, rfl, rfl, rfl, rfl, trivial⟩, ⟨⟨0, rfl⟩, ⟨1, rfl⟩, trivial⟩, rfl, by decide, rfl, by decide⟩ (by intros; simp [tarryref01_Same.l1]) <|
     ?_
    clear h
    intro ml1 ihl1 i27288 h
    simp only [tarryref01_Same.l1] at h
    refine sr <| VL.letter (decide (i27288 < (l0.length : Int))) fun b27302 hb27302 => va (op_cmp rfl rfl (congrArg some hb27302)) <| ds <| ?_
    replace h := iC h
    rcases h with ⟨c27304, h⟩ | ⟨c27304, h⟩
    · cases lT c27304 hb27302
      refine ct <| sk <| sq <| VC.block <| sr <| vm rfl <| vs rfl <| dt <| ?_
      replace h := iN h
      obtain ⟨c27310, h⟩ := h
      replace h := bd h
      obtain ⟨x27311, hx27311, h⟩ := h
      replace h := bd h
      obtain ⟨x27312, hx27312, h⟩ := h
      refine VC.letter ((x27311 != x27312)) fun b27313 hb27313 => VC.open (m := l0.length) 0 lenm rfl (pos_get hx27311) <| ?_
      rintro ad27239 n27240 rfl
      refine VC.open (m := l1.length) 1 lenm rfl (pos_get hx27312) <| ?_
      rintro ad27242 n27243 rfl
      refine VC.join0 (⟨26, [(0, (.slice (some ad27239) l0.length n27240)), (1, (.slice (some ad27242) l1.length n27243)), (4, .bool false), (5, iv i27288), (12, iv (l0.length : Int)), (13, iv i27288), (14, .bool true), (15, iv i27288), (16, (.slice (some ad27239) l0.length n27240)), (17, iv i27288), (19, .string x27311), (20, (.slice (some ad27242) l1.length n27243)), (21, iv i27288), (23, .string x27312), (24, .bool b27313)], [.row (.slice (some ad27239) l0.length n27240) 1 (l0.map enc_str), .row (.slice (some ad27242) l1.length n27243) 1 (l1.map enc_str)], [], []⟩) (True) ?_ ?_
      · exact dw ⟨0, [], [.row (.slice (some ad27239) l0.length n27240) 1 (l0.map enc_str), .row (.slice (some ad27242) l1.length n27243) 1 (l1.map enc_str)], [], []⟩ 9 <| av 0 1 rfl (mv rfl) <| av 1 3 rfl (mv rfl) <|
         av 2 7 rfl (op_indexAddr Tryz.underlying22 TI9 rfl rfl c27310 (lt_get c27310 hx27311) rfl) <| av 3 15 rfl (op_load_row (sz := 1) (o := 0) 0 i27288.toNat 1 rfl rfl (get_map hx27311) TI9 rfl (by decide)) <| av 4 31 rfl (mv rfl) <| av 5 63 rfl (mv rfl) <|
         av 6 127 rfl (op_indexAddr Tryz.underlying22 TI9 rfl rfl c27310 (lt_get c27310 hx27312) rfl) <| av 7 255 rfl (op_load_row (sz := 1) (o := 0) 1 i27288.toNat 1 rfl rfl (get_map hx27312) TI9 rfl (by decide)) <| av 8 511 rfl (op_cmps rfl rfl (congrArg some hb27313)) <| ad <| VN.meet0 [] [] trivial
      intro _
      replace h := iC h
      rcases h with ⟨c27314, h⟩ | ⟨c27314, h⟩
      · obtain rfl : b27313 = false := hb27313.symm.trans (bne_of_t c27314)
        refine cf <| VC.skip <| VN.block <| tr <| va (op_ari64 rfl rfl rfl) <| vm rfl <| dn <| VN.again [] [] (ihl1 (wrap64 (i27288 + 1)) h)
      obtain rfl : b27313 = true := hb27313.symm.trans (bne_of_f c27314)
      refine ct <| sr <| vs rfl <| dt <| VC.ret <| VR.block <| VR.then <| VR.then <| VR.block <| VR.then <| ?_
      obtain rfl := Option.some.inj h
      exact rq 4 rfl ⟨rfl, rfl, rfl⟩
    cases lF c27304 hb27302
    refine cf <| VC.exit <| VX.then <| VX.then <| VX.hit <| tx <| vs rfl <| dt <| VC.ret <| ?_
    obtain rfl := Option.some.inj h
    exact rq 4 rfl ⟨rfl, rfl, rfl⟩
  obtain rfl : b27233 = true := hb27233.symm.trans (bne_iff_ne.2 c27234)
  refine ct <| sr <| vs rfl <| dt <| VC.ret <| VR.then <| ?_
  obtain rfl := Option.some.inj h
  exact rq 4 rfl ⟨rfl, rfl, rfl⟩

end Go.Proofs.YtipeglbeongfmaaGreat.PJournalSeals
