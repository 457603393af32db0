/- Written by a program of this repo: what the program's functions do, each as a Lean function, shown of the loaded code; or a statement's row over that; no condition of its own. -/
import Derived.Test.YtipeglbeongfmaaGreatPJournalSealsx19
namespace Go.Proofs.YtipeglbeongfmaaGreat.PJournalSeals
open Go Go.RowKit Go.Proofs.YtipeglbeongfmaaGreatV
set_option linter.unusedVariables false
set_option linter.unusedSimpArgs false
set_option maxHeartbeats 4000000
set_option maxRecDepth 100000

theorem tarryref05_Second.ok (k : Nat) (l0_0 : List ByteArray) (l0_1 : List S71) (a0_2 : Int) (a0_3 : Int) (a0_4 : Int) (l0_5 : List ByteArray) (l0_6 : List ByteArray) (a1 : Int) (a2 : Int) (a3 : ByteArray) (v0_0 : Value) (v0_1 : Value) (v0_5 : Value) (v0_6 : Value) (r1 : List ByteArray) (r2 : List S71) (h : tarryref05_Second.f k l0_0 l0_1 a0_2 a0_3 a0_4 l0_5 l0_6 a1 a2 a3 = some (r1, r2)) :
    VCalls Tryz.prog 19 [.agg #[v0_0, v0_1, iv a0_2, iv a0_3, iv a0_4, v0_5, v0_6], iv a1, iv a2, .string a3] [.row v0_0 1 (l0_0.map enc_str), .row v0_1 2 (l0_1.map enc71), .row v0_5 1 (l0_5.map enc_str), .row v0_6 1 (l0_6.map enc_str)] (fun v G own => ∃ w0 w1 : Value, v = .agg #[w0, w1] ∧ G = [.row w0 1 (r1.map enc_str)] ∧ own = [(w1, 72, 2, r2.map enc71)]) := by
  refine VCalls.intro Tryz.func19 rfl (len rfl) fun E hC hW hD hU => ?_
  unfold tarryref05_Second.f at h
  refine sr <| sG (o_box rfl (.agg (.f 0 rfl (.f 1 rfl (.c rfl (.c rfl (.c rfl (.f 2 rfl (.f 3 rfl .nil))))))))) fun g32950 => sG (o_alloc Z25 ZL25) fun g32951 => nx <| va (op_load 1 7 rfl rfl TI27 rfl (fun h => absurd h (by decide))) <| vm rfl <| vm rfl <| vm rfl <| ?_
  replace h := bd h
  obtain ⟨⟨r32952, r32953⟩, hA32954, h⟩ := h
  dsimp only at h
  refine sC (o_call0 FO18 (tarryref05_First.ok k l0_0 l0_1 a0_2 a0_3 a0_4 l0_5 l0_6 a1 a2 a3 v0_0 v0_1 v0_5 v0_6 r32952 r32953 hA32954) rfl rfl (ltn rfl) (All_of (.cons (mG 0 rfl) (.cons (mG 1 rfl) (.cons (mG 2 rfl) (.cons (mG 3 rfl) .nil)))))) <| ?_
  rintro _ _ _ ⟨v32956, v32958, rfl, rfl, rfl⟩
  refine VL.freezeRow' 0 rfl <| ?_
  replace h := bd h
  obtain ⟨⟨r32959, r32960⟩, hA32961, h⟩ := h
  dsimp only at h
  refine sC (o_call0 FO34 (tarryref05_flush.ok k r32952 r32953 v32956 v32958 r32959 r32960 hA32961) rfl rfl (ltn rfl) (All_of (.cons (mG 1 rfl) (.cons (mG 0 rfl) .nil)))) <| ?_
  rintro _ _ _ ⟨v32963, v32965, rfl, rfl, rfl⟩
  refine sG (o_alloc Z25 ZL25) fun g32966 => s1 (o_store 0 2 rfl rfl rfl TI25 (.agg (.f 0 rfl (.r 0 rfl .nil))) rfl (len rfl)) <| dt <| ?_
  replace h := bd h
  obtain ⟨t32967, hA32968, h⟩ := h
  replace h := bd h
  obtain ⟨⟨r32969, r32970⟩, hA32971, h⟩ := h
  dsimp only at h
  refine VC.freezeRow' 0 rfl <| VC.join2 (fun (v32973 : Value) (v32975 : Value) => ⟨31, [(8, pt g32951 0)], [.row v32973 1 (r32969.map enc_str)], [(g32951, 25, [v32973, v32975])], [(v32975, 72, 2, r32970.map enc71)]⟩) (fun (v32973 : Value) (v32975 : Value) => True) ?_ ?_
  · refine dw ⟨0, [], [], [(g32966, 25, [v32963, v32965]), (g32950, 27, [v0_0, v0_1, iv a0_2, iv a0_3, iv a0_4, v0_5, v0_6])], []⟩ 16 <| av 0 1 rfl (op_load 0 2 rfl rfl TI25 rfl (fun h => absurd h (by decide))) <| av 1 3 rfl (op_fieldAddr FI27_1 rfl (add_at _ _ _)) <|
     av 2 7 rfl (op_load 1 1 rfl rfl TI3 rfl (by decide)) <| av 3 15 rfl (op_ari64 rfl rfl rfl) <| av 4 31 rfl (op_rem rfl rfl (by decide) rfl) <| av 5 63 rfl (op_fieldAddr FI27_1 rfl (add_at _ _ _)) <| av 6 127 rfl (op_load 1 1 rfl rfl TI3 rfl (by decide)) <| av 7 255 rfl (op_ari64 rfl rfl rfl) <|
     av 8 511 rfl (mv rfl) <| av 9 1023 rfl (mv rfl) <| av 10 2047 rfl (mv rfl) <| av 11 4095 rfl (op_lens Tryz.underlying9 rfl) <| av 12 8191 rfl (op_ari64 rfl rfl rfl) <|
     aC 13 16383 rfl (o_call0 FO43 (tarryref05_Head.ok k (wrap64 (a0_2 + 1)) a1 (wrap64 (a2 + (a3.size : Int))) t32967 hA32968) rfl rfl (ltn rfl) (All_of .nil)) <| ?_
    rintro _ _ _ ⟨rfl, rfl, rfl⟩
    refine ⟨⟨trivial, ⟨⟨0, rfl⟩, ⟨2, rfl⟩, trivial⟩, trivial⟩, ?_⟩
    refine aC 14 32767 rfl (o_call0 FO41 (tarryref05_put.ok r32959 r32960 ((wrap64 (a0_2 + 1)).tmod 2) t32967 v32963 v32965 r32969 r32970 hA32971) rfl rfl (ltn rfl) (All_of (.cons (mG 1 rfl) (.cons (mG 0 rfl) .nil)))) <| ?_
    rintro _ _ _ ⟨v32973, v32975, rfl, rfl, rfl⟩
    refine ⟨⟨trivial, ⟨⟨0, rfl⟩, ⟨2, rfl⟩, trivial⟩, trivial⟩, ?_⟩
    exact aO 15 65535 rfl (o_store 1 2 rfl rfl rfl TI25 (.agg (.f 0 rfl (.r 0 rfl .nil))) rfl (len rfl)) <| ad <| VN.meet2 v32973 v32975 [1] [0] trivial
  intro v32973 v32975 _
  refine VC.ret <| ?_
  simp only [Option.some.injEq, Prod.mk.injEq] at h
  obtain ⟨rfl, rfl⟩ := h
  exact rf [.cell 8 25] [0] (.cell 0 rfl rfl TI25 (fun h => absurd h (by decide)) .nil) ⟨v32973, v32975, rfl, rfl, rfl⟩

theorem tarryref05_Sealed.ok (k : Nat) (l0_0 : List ByteArray) (l0_1 : List S71) (a0_2 : Int) (a0_3 : Int) (a0_4 : Int) (l0_5 : List ByteArray) (l0_6 : List ByteArray) (a1 : Int) (a2 : Int) (a3 : ByteArray) (v0_0 : Value) (v0_1 : Value) (v0_5 : Value) (v0_6 : Value) (r1 : List ByteArray) (r2 : List S71) (r3 : Int) (r4 : Int) (r5 : Int) (r6 : List ByteArray) (r7 : List ByteArray) (h : tarryref05_Sealed.f k l0_0 l0_1 a0_2 a0_3 a0_4 l0_5 l0_6 a1 a2 a3 = some (r1, r2, r3, r4, r5, r6, r7)) :
    VCalls Tryz.prog 13 [.agg #[v0_0, v0_1, iv a0_2, iv a0_3, iv a0_4, v0_5, v0_6], iv a1, iv a2, .string a3] [.row v0_0 1 (l0_0.map enc_str), .row v0_1 2 (l0_1.map enc71), .row v0_5 1 (l0_5.map enc_str), .row v0_6 1 (l0_6.map enc_str)] (fun v G own => ∃ w0 w1 w5 w6 : Value, v = .agg #[w0, w1, iv r3, iv r4, iv r5, w5, w6] ∧ G = [.row w0 1 (r1.map enc_str), .row w1 2 (r2.map enc71)] ∧ own = [(w5, 9, 1, r6.map enc_str), (w6, 9, 1, r7.map enc_str)]) := by
  refine VCalls.intro Tryz.func13 rfl (len rfl) fun E hC hW hD hU => ?_
  unfold tarryref05_Sealed.f at h
  refine sr <| sG (o_box rfl (.agg (.f 0 rfl (.f 1 rfl (.c rfl (.c rfl (.c rfl (.f 2 rfl (.f 3 rfl .nil))))))))) fun g33011 => sG (o_alloc Z27 ZL27) fun g33012 => nx <| va (op_load 1 7 rfl rfl TI27 rfl (fun h => absurd h (by decide))) <| vm rfl <| vm rfl <| vm rfl <| ?_
  replace h := bd h
  obtain ⟨⟨r33013, r33014⟩, hA33015, h⟩ := h
  dsimp only at h
  refine sC (o_call0 FO19 (tarryref05_Second.ok k l0_0 l0_1 a0_2 a0_3 a0_4 l0_5 l0_6 a1 a2 a3 v0_0 v0_1 v0_5 v0_6 r33013 r33014 hA33015) rfl rfl (ltn rfl) (All_of (.cons (mG 0 rfl) (.cons (mG 1 rfl) (.cons (mG 2 rfl) (.cons (mG 3 rfl) .nil)))))) <| ?_
  rintro _ _ _ ⟨v33017, v33019, rfl, rfl, rfl⟩
  refine VL.freezeRow' 0 rfl <| ?_
  replace h := bd h
  obtain ⟨⟨r33020, r33021⟩, hA33022, h⟩ := h
  dsimp only at h
  refine sC (o_call0 FO34 (tarryref05_flush.ok k r33013 r33014 v33017 v33019 r33020 r33021 hA33022) rfl rfl (ltn rfl) (All_of (.cons (mG 1 rfl) (.cons (mG 0 rfl) .nil)))) <| ?_
  rintro _ _ _ ⟨v33024, v33026, rfl, rfl, rfl⟩
  refine VL.freezeRow' 0 rfl <| ?_
  replace h := bd h
  obtain ⟨⟨r33027, r33028, t33029, t33030, t33031, r33032, r33033, t33034⟩, hA33035, h⟩ := h
  dsimp only at h
  refine sC (o_call0 FO32 (tarryref05_Open.ok k r33020 r33021 v33024 v33026 r33027 r33028 t33029 t33030 t33031 r33032 r33033 t33034 hA33035) rfl rfl (ltn rfl) (All_of (.cons (mG 1 rfl) (.cons (mG 0 rfl) .nil)))) <| ?_
  rintro _ _ _ ⟨v33037, v33039, v33041, v33043, rfl, rfl, rfl⟩
  refine va (op_field (off := 0) (k := 7) ⟨_, _, Tryz.underlying59, rfl, rfl, TI27⟩ rfl rfl (by decide)) <| s1 (o_store 0 7 rfl rfl rfl TI27 (.agg (.f 0 rfl (.f 1 rfl (.c rfl (.c rfl (.c rfl (.r 0 rfl (.r 1 rfl .nil)))))))) rfl (len rfl)) <| dt <| VC.ret <| ?_
  simp only [Option.some.injEq, Prod.mk.injEq] at h
  obtain ⟨rfl, rfl, rfl, rfl, rfl, rfl, rfl⟩ := h
  exact rf [.cell 8 27] [0, 1] (.cell 0 rfl rfl TI27 (fun h => absurd h (by decide)) .nil) ⟨v33037, v33039, v33041, v33043, rfl, rfl, rfl⟩

end Go.Proofs.YtipeglbeongfmaaGreat.PJournalSeals
