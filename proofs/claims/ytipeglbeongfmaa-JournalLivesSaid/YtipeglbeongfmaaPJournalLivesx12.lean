/- Written by a program of this repo: what the program's functions do, each as a Lean function, shown of the loaded code; or a statement's row over that; no condition of its own. -/
import Derived.Test.YtipeglbeongfmaaPJournalLivesx11
namespace Go.Proofs.Ytipeglbeongfmaa.PJournalLives
open Go Go.RowKit Go.Proofs.YtipeglbeongfmaaV
set_option linter.unusedVariables false
set_option linter.unusedSimpArgs false
set_option maxHeartbeats 4000000
set_option maxRecDepth 100000

theorem tarrylaw05_JournalLives.ok (k : Nat) (a0 : Int) (l1 : List S52) (v1 : Value) (r1 : Bool) (h : tarrylaw05_JournalLives.f k a0 l1 = some r1) :
    VCalls Try.prog 6 [.int .i64 a0, v1] [.row v1 5 (l1.map enc52)] (fun v G own => v = .bool r1 ∧ G = [] ∧ own = []) := by
  refine VCalls.intro Try.func6 rfl (len rfl) fun E hC hW hD hU => ?_
  unfold tarrylaw05_JournalLives.f at h
  refine sr <| vs rfl <| nx <| vm rfl <| va (op_rem rfl rfl (by decide) rfl) <| va (op_ari64 rfl rfl rfl) <| va (op_rem rfl rfl (by decide) rfl) <| va (op_ari64 rfl rfl rfl) <| vs rfl <| nx <| vm rfl <| ?_
  replace h := bd h
  obtain ⟨⟨r6896, r6897, t6898, t6899, t6900, r6901, r6902, t6903⟩, hA6904, h⟩ := h
  dsimp only at h
  refine sC (o_call0 FO15 (journal_Format.ok k (wrap64 (8 + ((wrap64 ((a0.tmod 20) + 20)).tmod 20))) r6896 r6897 t6898 t6899 t6900 r6901 r6902 t6903 hA6904) rfl rfl (ltn rfl) (All_of .nil)) <| ?_
  rintro _ _ _ ⟨v6906, v6908, v6910, v6912, rfl, rfl, rfl⟩
  refine vm rfl <| va (op_extract rfl rfl) <| va (op_extract rfl rfl) <| sG (o_alloc Z27 ZL27) fun g6913 => s1 (o_store 0 7 rfl rfl rfl TI27 (.agg (.f 0 rfl (.f 1 rfl (.c rfl (.c rfl (.c rfl (.r 0 rfl (.r 1 rfl .nil)))))))) rfl (len rfl)) <| vs rfl <| ds <| sr <| vm rfl <|
   VL.letter ((t6903 != 0)) fun b6916 hb6916 => va (op_cmp rfl rfl (congrArg some hb6916)) <| dt <| ?_
  replace h := iC h
  rcases h with ⟨c6917, h⟩ | ⟨c6917, h⟩
  · obtain rfl : b6916 = false := hb6916.symm.trans (bne_eq_false_iff_eq.2 c6917)
    refine cf <| sk <| sq <| sr <| vm rfl <| va (op_len (m := l1.length) 2 lenm Try.underlying51 rfl rfl) <| vm rfl <| dt <| VC.block <| VC.freezeRow' 0 rfl <| VC.freezeRow' 0 rfl <|
     VC.loop12 (fun (i26018 : Int) (v26020 : Value) (l26021 : List ByteArray) (v26023 : Value) (l26024 : List S55) (i26025 : Int) (i26026 : Int) (i26027 : Int) (v26029 : Value) (l26030 : List ByteArray) (v26032 : Value) (l26033 : List ByteArray) => ⟨152, [(4, .bool false), (5, .pointer (some ⟨g6913, 0, none⟩)), (28, v1), (29, .int .i64 (l1.length : Int)), (30, .int .i64 i26018)], [.row v26020 1 (l26021.map enc_str), .row v26023 2 (l26024.map enc55), .row v26029 1 (l26030.map enc_str), .row v26032 1 (l26033.map enc_str), .row v1 5 (l1.map enc52)], [(g6913, 27, [v26020, v26023, .int .i64 i26025, .int .i64 i26026, .int .i64 i26027, v26029, v26032])], []⟩) (fun (ml17 : Nat) (i26018 : Int) (v26020 : Value) (l26021 : List ByteArray) (v26023 : Value) (l26024 : List S55) (i26025 : Int) (i26026 : Int) (i26027 : Int) (v26029 : Value) (l26030 : List ByteArray) (v26032 : Value) (l26033 : List ByteArray) => tarrylaw05_JournalLives.l17 k l1 ml17 i26018 l26021 l26024 i26025 i26026 i26027 l26030 l26033 = some r1) k 0 v6906 r6896 v6908 r6897 t6898 t6899 t6900 v6910 r6901 v6912 r6902 [0] [] h ⟨rfl, ⟨rfl, rfl, rfl, rfl, rfl, trivial⟩, ⟨⟨2, rfl⟩, ⟨3, rfl⟩, ⟨1, rfl⟩, ⟨0, rfl⟩, ⟨4, rfl⟩, trivial⟩, rfl, by decide, rfl, by decide⟩ (by intros; simp [tarrylaw05_JournalLives.l17]) <|
     ?_
    clear h
    intro ml17 ihl17 i26018 v26020 l26021 v26023 l26024 i26025 i26026 i26027 v26029 l26030 v26032 l26033 h
    simp only [tarrylaw05_JournalLives.l17] at h
    refine sr <| VL.letter (decide (i26018 < (l1.length : Int))) fun b30257 hb30257 => va (op_cmp rfl rfl (congrArg some hb30257)) <| ds <| ?_
    replace h := iC h
    rcases h with ⟨c30341, h⟩ | ⟨c30341, h⟩
    · cases lT c30341 hb30257
      refine ct <| sk <| sq <| VC.block <| sr <| vm rfl <| ?_
      replace h := iN h
      obtain ⟨c32456, h⟩ := h
      replace h := bd h
      obtain ⟨x32457, hx32457, h⟩ := h
      refine VL.open (m := l1.length) 4 lenm rfl (pos_get hx32457) <| ?_
      rintro ad32458 n32459 rfl
      refine va (op_indexAddr Try.underlying51 TI53 rfl rfl c32456 (lt_get c32456 hx32457) rfl) <| va (op_load_row (sz := 5) (o := 0) 4 i26018.toNat 5 rfl rfl (get_map hx32457) TI53 rfl (fun h => absurd h (by decide))) <| sG (o_alloc Z53 ZL53) fun g32460 => vs rfl <|
       s1 (o_store 0 5 rfl rfl rfl TI53 (.agg (.of rfl)) rfl (len rfl)) <| ds <| sr <| vm rfl <| VL.letter (decide (i26018 ≥ 16)) fun b32465 hb32465 => va (op_cmp rfl rfl (congrArg some hb32465)) <| dt <| ?_
      replace h := iC h
      rcases h with ⟨c32466, h⟩ | ⟨c32466, h⟩
      · cases lT c32466 hb32465
        refine ct <| VC.exit <| VX.then <| VX.miss (by decide) <| VX.then <| VX.then <| VX.hit <| tx <| ?_
        replace h := bd h
        obtain ⟨t32467, hA32468, h⟩ := h
        refine sC (o_call0 FO14 (tarrylaw05_alive.ok k t32467 hA32468) rfl rfl (ltn rfl) (All_of .nil)) <| ?_
        rintro _ _ _ ⟨rfl, rfl, rfl⟩
        refine vs rfl <| dt <| VC.ret <| ?_
        obtain rfl := Option.some.inj h
        exact VR.fn (rs := [.tmp 4]) [] [] [] rfl (.tmp rfl .nil) ⟨rfl, rfl, rfl⟩ trivial rfl (by decide)
      cases lF c32466 hb32465
      refine cf <| sk <| sr <| va (op_fieldAddr FI53_1 rfl (add_at _ _ _)) <| va (op_load 0 1 rfl rfl TI9 rfl (by decide)) <| va (op_fieldAddr FI53_1 rfl (add_at _ _ _)) <| va (op_load 0 1 rfl rfl TI9 rfl (by decide)) <| va (op_lens Try.underlying9 rfl) <| va (op_min rfl rfl) <| ?_
      replace h := iN h
      obtain ⟨c32469, h⟩ := h
      replace h := iN h
      obtain ⟨c32470, h⟩ := h
      refine va (op_sliceS 0 ((mn (x32457.f1.size : Int) 150).toNat) Try.underlying9 rfl ⟨rfl, ⟨_, _, rfl, c32469, rfl⟩, Nat.zero_le _, tN (a := (mn (x32457.f1.size : Int) 150)) (b := (x32457.f1.size : Int)) rfl rfl c32470⟩ rfl) <| va (op_fieldAddr FI53_1 rfl (add_at _ _ _)) <|
       s1 (o_store 0 1 rfl rfl rfl TI9 (.c rfl) rfl (len rfl)) <| dt <| ?_
      replace h := iN h
      obtain ⟨c32473, h⟩ := h
      replace h := iN h
      obtain ⟨c32476, h⟩ := h
      refine VC.join1 (fun (v32477 : Value) => ⟨152, [(4, .bool false), (5, .pointer (some ⟨g6913, 0, none⟩)), (7, .int .i64 i26018), (8, .pointer (some ⟨g32460, 0, none⟩)), (9, v26032), (10, v32477), (28, (.slice (some ad32458) l1.length n32459)), (29, .int .i64 (l1.length : Int)), (30, .int .i64 i26018), (31, .bool true), (32, .int .i64 i26018), (34, .agg #[.int .i64 x32457.f0, .string x32457.f1, .bool x32457.f2, .int .u64 x32457.f3, .int .i64 x32457.f4]), (35, .int .i64 i26018), (36, .bool false), (37, .pointer (some ⟨g32460, 1, none⟩)), (38, .string x32457.f1), (39, .pointer (some ⟨g32460, 1, none⟩)), (40, .string x32457.f1), (41, .int .i64 (x32457.f1.size : Int)), (42, .int .i64 (mn (x32457.f1.size : Int) 150)), (43, .string (x32457.f1.extract 0 ((mn (x32457.f1.size : Int) 150).toNat))), (44, .pointer (some ⟨g32460, 1, none⟩)), (45, .pointer (some ⟨g6913, 6, none⟩)), (46, v26032), (48, .pointer (some ⟨g6913, 6, none⟩)), (49, v26032), (51, .pointer (some ⟨g6913, 5, none⟩)), (52, v26029), (53, v32477)], [.row v26020 1 (l26021.map enc_str), .row v26023 2 (l26024.map enc55), .row v26029 1 (l26030.map enc_str), .row v26032 1 (l26033.map enc_str), .row (.slice (some ad32458) l1.length n32459) 5 (l1.map enc52)], [(g32460, 53, [.int .i64 x32457.f0, .string (x32457.f1.extract 0 ((mn (x32457.f1.size : Int) 150).toNat)), .bool x32457.f2, .int .u64 x32457.f3, .int .i64 x32457.f4]), (g6913, 27, [v26020, v26023, .int .i64 i26025, .int .i64 i26026, .int .i64 i26027, v26029, v26032])], [(v32477, 9, 1, ((([] : List ByteArray) ++ l26033) ++ l26030).map enc_str)]⟩) (fun (v32477 : Value) => True) ?_ ?_
      · exact VC.draw ⟨0, [], [.row v26032 1 (l26033.map enc_str)], [(g6913, 27, [v26020, v26023, .int .i64 i26025, .int .i64 i26026, .int .i64 i26027, v26029, v26032])], []⟩ (by kernel_rfl) rfl (by kernel_rfl) (n := 11) (listed := LB 11 0) <|
         aw 0 1 rfl (op_fieldAddr FI27_5 rfl (add_at _ _ _)) ⟨⟨⟨3, rfl⟩, trivial⟩, ⟨⟨1, rfl⟩, trivial⟩, trivial⟩ <| aw 1 3 rfl (op_load 0 1 rfl rfl TI22 rfl (by decide)) ⟨⟨⟨3, rfl⟩, trivial⟩, ⟨⟨1, rfl⟩, trivial⟩, trivial⟩ <|
         aw 3 11 rfl (op_fieldAddr FI27_5 rfl (add_at _ _ _)) ⟨⟨⟨3, rfl⟩, trivial⟩, ⟨⟨1, rfl⟩, trivial⟩, trivial⟩ <| aw 4 27 rfl (op_load 0 1 rfl rfl TI22 rfl (by decide)) ⟨⟨⟨3, rfl⟩, trivial⟩, ⟨⟨1, rfl⟩, trivial⟩, trivial⟩ <|
         aw 6 91 rfl (op_fieldAddr FI27_4 rfl (add_at _ _ _)) ⟨⟨⟨3, rfl⟩, trivial⟩, ⟨⟨1, rfl⟩, trivial⟩, trivial⟩ <| aw 7 219 rfl (op_load 0 1 rfl rfl TI22 rfl (by decide)) ⟨⟨⟨3, rfl⟩, trivial⟩, ⟨⟨1, rfl⟩, trivial⟩, trivial⟩ <|
         VA.oneG (i := 2) (listed' := LB 11 223) (by kernel_rfl) rfl (o_buildSlice (vals := []) (cells := #[]) (es := List.map enc_str ([] : List ByteArray)) Try.underlying22 TI9 Z9 rfl (by decide) (by decide) (by kernel_rfl) (by kernel_rfl) rfl (flat_map enc_str_ok _)) rfl (by kernel_rfl) (fun _ => ⟨⟨⟨3, rfl⟩, trivial⟩, ⟨⟨1, rfl⟩, trivial⟩, trivial⟩) fun v32472 => VA.oneG (i := 5) (listed' := LB 11 255) (by kernel_rfl) rfl (o_append 0 appm Try.underlying22 EI9 rfl rfl rfl (.inl ⟨3, rfl⟩) (bndm c32473)) rfl (by kernel_rfl) (fun _ => ⟨⟨⟨3, rfl⟩, trivial⟩, ⟨⟨1, rfl⟩, trivial⟩, trivial⟩) fun v32474 => VA.oneG (i := 8) (listed' := LB 11 511) (by kernel_rfl) rfl (o_append 0 appm Try.underlying22 EI9 rfl rfl rfl (.inl ⟨2, rfl⟩) (bndm c32476)) rfl (by kernel_rfl) (fun _ => ⟨⟨⟨3, rfl⟩, trivial⟩, ⟨⟨1, rfl⟩, trivial⟩, trivial⟩) fun v32477 => aw 9 1023 rfl (ag rfl) ⟨⟨⟨3, rfl⟩, trivial⟩, ⟨⟨1, rfl⟩, trivial⟩, trivial⟩ <|
         VA.more ⟨0, [], [.row v26032 1 (l26033.map enc_str)], [(g6913, 27, [v26020, v26023, .int .i64 i26025, .int .i64 i26026, .int .i64 i26027, v26029, v26032])], [(v32477, 9, 1, ((([] : List ByteArray) ++ l26033) ++ l26030).map enc_str)]⟩ ⟨⟨⟨0, rfl⟩, trivial⟩, ⟨⟨0, rfl⟩, trivial⟩, trivial⟩ <|
         aw 10 2047 rfl (ag rfl) ⟨⟨⟨3, rfl⟩, trivial⟩, ⟨⟨1, rfl⟩, trivial⟩, ⟨⟨0, rfl⟩, trivial⟩⟩ <| VA.done (by kernel_rfl) <|
         VN.meet1 v32477 [0, 1] [0] trivial ⟨rfl, ⟨rfl, rfl, rfl, rfl, rfl, rfl, rfl, rfl, rfl, rfl, rfl, rfl, rfl, rfl, rfl, rfl, rfl, rfl, rfl, rfl, rfl, rfl, rfl, rfl, rfl, rfl, rfl, rfl, rfl, trivial⟩, ⟨⟨0, rfl⟩, ⟨1, rfl⟩, ⟨2, rfl⟩, ⟨3, rfl⟩, ⟨4, rfl⟩, trivial⟩, rfl, by decide, rfl, by decide⟩
      intro v32477 _
      refine sr <| sG (o_alloc Z27 ZL27) fun g32479 => nx <| vs rfl <| dt <|
       VC.join20 (fun (v34497 : Value) (l34498 : List ByteArray) (v34500 : Value) (l34501 : List ByteArray) (i34502 : Int) (q34503 : Bool) (q34504 : Bool) (q34505 : Bool) (v34507 : Value) (l34508 : List ByteArray) (v34510 : Value) (l34511 : List S55) (i34512 : Int) (i34513 : Int) (i34514 : Int) (v34516 : Value) (l34517 : List ByteArray) (v34519 : Value) (l34520 : List ByteArray) (q34521 : Bool) => ⟨152, [(4, .bool false), (5, .pointer (some ⟨g6913, 0, none⟩)), (7, .int .i64 i26018), (8, .pointer (some ⟨g32460, 0, none⟩)), (9, v34497), (10, v34500), (11, .pointer (some ⟨g32479, 0, none⟩)), (12, .int .i64 i34502), (28, (.slice (some ad32458) l1.length n32459)), (29, .int .i64 (l1.length : Int)), (30, .int .i64 i26018), (31, .bool true), (32, .int .i64 i26018), (34, .agg #[.int .i64 x32457.f0, .string x32457.f1, .bool q34503, .int .u64 x32457.f3, .int .i64 x32457.f4]), (35, .int .i64 i26018), (36, .bool false), (37, .pointer (some ⟨g32460, 1, none⟩)), (38, .string x32457.f1), (39, .pointer (some ⟨g32460, 1, none⟩)), (40, .string x32457.f1), (41, .int .i64 (x32457.f1.size : Int)), (42, .int .i64 (mn (x32457.f1.size : Int) 150)), (43, .string (x32457.f1.extract 0 ((mn (x32457.f1.size : Int) 150).toNat))), (44, .pointer (some ⟨g32460, 1, none⟩)), (45, .pointer (some ⟨g6913, 6, none⟩)), (46, v26032), (48, .pointer (some ⟨g6913, 6, none⟩)), (49, v26032), (51, .pointer (some ⟨g6913, 5, none⟩)), (52, v26029), (53, v32477), (54, .pointer (some ⟨g32460, 0, none⟩)), (55, .int .i64 x32457.f0), (56, .int .i64 (x32457.f0.tmod 5)), (57, .int .i64 (wrap64 ((x32457.f0.tmod 5) + 5))), (58, .int .i64 ((wrap64 ((x32457.f0.tmod 5) + 5)).tmod 5)), (95, .bool q34504), (96, .bool q34505)], [.row v34497 1 (l34498.map enc_str), .row v34500 1 (l34501.map enc_str), .row v34507 1 (l34508.map enc_str), .row v34510 2 (l34511.map enc55), .row v34516 1 (l34517.map enc_str), .row v34519 1 (l34520.map enc_str), .row (.slice (some ad32458) l1.length n32459) 5 (l1.map enc52), .row v26032 1 (l26033.map enc_str), .row v26029 1 (l26030.map enc_str), .row v32477 1 (((([] : List ByteArray) ++ l26033) ++ l26030).map enc_str), .row v26020 1 (l26021.map enc_str), .row v26023 2 (l26024.map enc55)], [(g32479, 27, [v34507, v34510, .int .i64 i34512, .int .i64 i34513, .int .i64 i34514, v34516, v34519]), (g32460, 53, [.int .i64 x32457.f0, .string (x32457.f1.extract 0 ((mn (x32457.f1.size : Int) 150).toNat)), .bool q34521, .int .u64 x32457.f3, .int .i64 x32457.f4]), (g6913, 27, [v26020, v26023, .int .i64 i26025, .int .i64 i26026, .int .i64 i26027, v26029, v26032])], []⟩) (fun (v34497 : Value) (l34498 : List ByteArray) (v34500 : Value) (l34501 : List ByteArray) (i34502 : Int) (q34503 : Bool) (q34504 : Bool) (q34505 : Bool) (v34507 : Value) (l34508 : List ByteArray) (v34510 : Value) (l34511 : List S55) (i34512 : Int) (i34513 : Int) (i34514 : Int) (v34516 : Value) (l34517 : List ByteArray) (v34519 : Value) (l34520 : List ByteArray) (q34521 : Bool) => tarrylaw05_JournalLives.j33 k (tarrylaw05_JournalLives.l17 k l1 ml17) i26018 i26025 i26026 i26027 l26021 l26024 l26030 l26033 l34498 l34501 i34502 q34503 q34504 q34505 l34508 l34511 i34512 i34513 i34514 l34517 l34520 q34521 = some r1) ?_ ?_
      · refine sr <| va (op_fieldAddr FI53_0 rfl (add_at _ _ _)) <| va (op_load 1 1 rfl rfl TI3 rfl (by decide)) <| va (op_rem rfl rfl (by decide) rfl) <| va (op_ari64 rfl rfl rfl) <| va (op_rem rfl rfl (by decide) rfl) <| dt <| VC.block <| sr <|
         VL.letter ((((wrap64 ((x32457.f0.tmod 5) + 5)).tmod 5) == 0)) fun b34281 hb34281 => va (op_cmp rfl rfl (congrArg some hb34281)) <| vs rfl <| dt <| ?_
        replace h := iC h
        rcases h with ⟨c34282, h⟩ | ⟨c34282, h⟩
        · obtain rfl : b34281 = true := hb34281.symm.trans (beq_iff_eq.2 c34282)
          refine ct <| sr <| va (op_load 2 7 rfl rfl TI27 rfl (fun h => absurd h (by decide))) <| va (op_fieldAddr FI53_1 rfl (add_at _ _ _)) <| va (op_load 1 1 rfl rfl TI9 rfl (by decide)) <| ?_
          replace h := bd h
          obtain ⟨⟨r34283, r34284, t34285, t34286, t34287, r34288, r34289, t34290⟩, hA34291, h⟩ := h
          dsimp only at h
          refine sC (o_call0 FO18 (journal_Append.ok k l26021 l26024 i26025 i26026 i26027 l26030 l26033 (x32457.f1.extract 0 ((mn (x32457.f1.size : Int) 150).toNat)) v26020 v26023 v26029 v26032 r34283 r34284 t34285 t34286 t34287 r34288 r34289 t34290 hA34291) rfl rfl (ltn rfl) (All_of (.cons (mG 0 rfl) (.cons (mG 1 rfl) (.cons (mG 2 rfl) (.cons (mG 3 rfl) .nil)))))) <|
           ?_
          rintro _ _ _ ⟨v34293, v34295, v34297, v34299, rfl, rfl, rfl⟩
          refine vm rfl <| va (op_extract rfl rfl) <| va (op_extract rfl rfl) <| s1 (o_store 0 7 rfl rfl rfl TI27 (.agg (.f 0 rfl (.f 1 rfl (.c rfl (.c rfl (.c rfl (.f 2 rfl (.f 3 rfl .nil)))))))) rfl (len rfl)) <| vs rfl <| dr <| vm rfl <| vs rfl <| dn <| VN.block <| VN.freezeRow' 0 rfl <|
           VN.meet20 v26032 l26033 v26032 l26033 t34290 x32457.f2 true true v34293 r34283 v34295 r34284 t34285 t34286 t34287 v34297 r34288 v34299 r34289 x32457.f2 [0, 1, 2] [] h ⟨rfl, ⟨rfl, rfl, rfl, rfl, rfl, rfl, rfl, rfl, rfl, rfl, rfl, rfl, rfl, rfl, rfl, rfl, rfl, rfl, rfl, rfl, rfl, rfl, rfl, rfl, rfl, rfl, rfl, rfl, rfl, rfl, rfl, rfl, rfl, rfl, rfl, rfl, rfl, rfl, trivial⟩, ⟨⟨8, rfl⟩, ⟨8, rfl⟩, ⟨1, rfl⟩, ⟨2, rfl⟩, ⟨3, rfl⟩, ⟨4, rfl⟩, ⟨9, rfl⟩, ⟨8, rfl⟩, ⟨7, rfl⟩, ⟨0, rfl⟩, ⟨5, rfl⟩, ⟨6, rfl⟩, trivial⟩, rfl, by decide, rfl, by decide⟩
        obtain rfl : b34281 = false := hb34281.symm.trans (beq_eq_false_iff_ne.2 c34282)
        refine cf <| sr <| VL.letter ((((wrap64 ((x32457.f0.tmod 5) + 5)).tmod 5) == 1)) fun b34300 hb34300 => va (op_cmp rfl rfl (congrArg some hb34300)) <| vs rfl <| dt <| ?_
        replace h := iC h
        rcases h with ⟨c34301, h⟩ | ⟨c34301, h⟩
        · obtain rfl : b34300 = true := hb34300.symm.trans (beq_iff_eq.2 c34301)
          refine ct <| sr <| va (op_load 2 7 rfl rfl TI27 rfl (fun h => absurd h (by decide))) <| ?_
          replace h := bd h
          obtain ⟨⟨r34302, r34303, t34304, t34305, t34306, r34307, r34308, t34309⟩, hA34310, h⟩ := h
          dsimp only at h
          refine sC (o_call0 FO19 (journal_Commit.ok k l26021 l26024 i26025 i26026 i26027 l26030 l26033 v26020 v26023 v26029 v26032 r34302 r34303 t34304 t34305 t34306 r34307 r34308 t34309 hA34310) rfl rfl (ltn rfl) (All_of (.cons (mG 0 rfl) (.cons (mG 1 rfl) (.cons (mG 2 rfl) (.cons (mG 3 rfl) .nil)))))) <|
           ?_
          rintro _ _ _ ⟨v34312, v34314, v34316, v34318, rfl, rfl, rfl⟩
          refine vm rfl <| va (op_extract rfl rfl) <| va (op_extract rfl rfl) <| s1 (o_store 0 7 rfl rfl rfl TI27 (.agg (.f 0 rfl (.f 1 rfl (.c rfl (.c rfl (.c rfl (.r 0 rfl (.r 1 rfl .nil)))))))) rfl (len rfl)) <| vs rfl <| dr <| vm rfl <| vs rfl <| dn <| VN.block <| VN.freezeRow' 2 rfl <|
           VN.freezeRow' 0 rfl <| VN.freezeRow' 0 rfl <|
           VN.meet20 v32477 ((([] : List ByteArray) ++ l26033) ++ l26030) v32477 ((([] : List ByteArray) ++ l26033) ++ l26030) t34309 x32457.f2 false false v34312 r34302 v34314 r34303 t34304 t34305 t34306 v34316 r34307 v34318 r34308 x32457.f2 [0, 1, 2] [] h ⟨rfl, ⟨rfl, rfl, rfl, rfl, rfl, rfl, rfl, rfl, rfl, rfl, rfl, rfl, rfl, rfl, rfl, rfl, rfl, rfl, rfl, rfl, rfl, rfl, rfl, rfl, rfl, rfl, rfl, rfl, rfl, rfl, rfl, rfl, rfl, rfl, rfl, rfl, rfl, rfl, trivial⟩, ⟨⟨2, rfl⟩, ⟨2, rfl⟩, ⟨3, rfl⟩, ⟨4, rfl⟩, ⟨1, rfl⟩, ⟨0, rfl⟩, ⟨9, rfl⟩, ⟨8, rfl⟩, ⟨7, rfl⟩, ⟨2, rfl⟩, ⟨5, rfl⟩, ⟨6, rfl⟩, trivial⟩, rfl, by decide, rfl, by decide⟩
        obtain rfl : b34300 = false := hb34300.symm.trans (beq_eq_false_iff_ne.2 c34301)
        refine cf <| sr <| VL.letter ((((wrap64 ((x32457.f0.tmod 5) + 5)).tmod 5) == 2)) fun b34319 hb34319 => va (op_cmp rfl rfl (congrArg some hb34319)) <| vs rfl <| dt <| ?_
        replace h := iC h
        rcases h with ⟨c34320, h⟩ | ⟨c34320, h⟩
        · obtain rfl : b34319 = true := hb34319.symm.trans (beq_iff_eq.2 c34320)
          refine ct <| sr <| va (op_load 2 7 rfl rfl TI27 rfl (fun h => absurd h (by decide))) <| va (op_fieldAddr FI53_1 rfl (add_at _ _ _)) <| va (op_load 1 1 rfl rfl TI9 rfl (by decide)) <| ?_
          replace h := bd h
          obtain ⟨⟨r34321, r34322, t34323, t34324, t34325, r34326, r34327, t34328⟩, hA34329, h⟩ := h
          dsimp only at h
          refine sC (o_call0 FO21 (journal_Compact.ok k l26021 l26024 i26025 i26026 i26027 l26030 l26033 (x32457.f1.extract 0 ((mn (x32457.f1.size : Int) 150).toNat)) v26020 v26023 v26029 v26032 r34321 r34322 t34323 t34324 t34325 r34326 r34327 t34328 hA34329) rfl rfl (ltn rfl) (All_of (.cons (mG 0 rfl) (.cons (mG 1 rfl) (.cons (mG 2 rfl) (.cons (mG 3 rfl) .nil)))))) <|
           ?_
          rintro _ _ _ ⟨v34331, v34333, v34335, v34337, rfl, rfl, rfl⟩
          refine vm rfl <| va (op_extract rfl rfl) <| va (op_extract rfl rfl) <| s1 (o_store 0 7 rfl rfl rfl TI27 (.agg (.f 0 rfl (.f 1 rfl (.c rfl (.c rfl (.c rfl (.r 0 rfl (.r 1 rfl .nil)))))))) rfl (len rfl)) <| vs rfl <| dt <|
           VC.stop2 (fun (v34339 : Value) (v34341 : Value) => ⟨152, [(4, .bool false), (5, .pointer (some ⟨g6913, 0, none⟩)), (7, .int .i64 i26018), (8, .pointer (some ⟨g32460, 0, none⟩)), (9, v34339), (10, v34341), (11, .pointer (some ⟨g32479, 0, none⟩)), (12, .int .i64 t34328), (28, (.slice (some ad32458) l1.length n32459)), (29, .int .i64 (l1.length : Int)), (30, .int .i64 i26018), (31, .bool true), (32, .int .i64 i26018), (34, .agg #[.int .i64 x32457.f0, .string x32457.f1, .bool x32457.f2, .int .u64 x32457.f3, .int .i64 x32457.f4]), (35, .int .i64 i26018), (36, .bool false), (37, .pointer (some ⟨g32460, 1, none⟩)), (38, .string x32457.f1), (39, .pointer (some ⟨g32460, 1, none⟩)), (40, .string x32457.f1), (41, .int .i64 (x32457.f1.size : Int)), (42, .int .i64 (mn (x32457.f1.size : Int) 150)), (43, .string (x32457.f1.extract 0 ((mn (x32457.f1.size : Int) 150).toNat))), (44, .pointer (some ⟨g32460, 1, none⟩)), (45, .pointer (some ⟨g6913, 6, none⟩)), (46, v26032), (48, .pointer (some ⟨g6913, 6, none⟩)), (49, v26032), (51, .pointer (some ⟨g6913, 5, none⟩)), (52, v26029), (53, v32477), (54, .pointer (some ⟨g32460, 0, none⟩)), (55, .int .i64 x32457.f0), (56, .int .i64 (x32457.f0.tmod 5)), (57, .int .i64 (wrap64 ((x32457.f0.tmod 5) + 5))), (58, .int .i64 ((wrap64 ((x32457.f0.tmod 5) + 5)).tmod 5)), (95, .bool false), (96, .bool false), (105, .bool false), (106, .bool false), (113, .bool true), (114, .bool true), (115, .tuple #[.agg #[v34331, v34333, .int .i64 t34323, .int .i64 t34324, .int .i64 t34325, v34335, v34337], .int .i64 t34328]), (116, .agg #[v26020, v26023, .int .i64 i26025, .int .i64 i26026, .int .i64 i26027, v26029, v26032]), (117, .pointer (some ⟨g32460, 1, none⟩)), (118, .string (x32457.f1.extract 0 ((mn (x32457.f1.size : Int) 150).toNat))), (119, .tuple #[.agg #[v34331, v34333, .int .i64 t34323, .int .i64 t34324, .int .i64 t34325, v34335, v34337], .int .i64 t34328]), (120, .agg #[v34331, v34333, .int .i64 t34323, .int .i64 t34324, .int .i64 t34325, v34335, v34337]), (121, .int .i64 t34328), (122, .pointer (some ⟨g32460, 1, none⟩)), (123, .string (x32457.f1.extract 0 ((mn (x32457.f1.size : Int) 150).toNat))), (124, v34339), (125, .pointer (some ⟨g32460, 1, none⟩)), (126, .string (x32457.f1.extract 0 ((mn (x32457.f1.size : Int) 150).toNat))), (127, v34341)], [.row v34331 1 (r34321.map enc_str), .row v34333 2 (r34322.map enc55), .row v26020 1 (l26021.map enc_str), .row v26023 2 (l26024.map enc55), .row v26029 1 (l26030.map enc_str), .row v26032 1 (l26033.map enc_str), .row (.slice (some ad32458) l1.length n32459) 5 (l1.map enc52)], [(g32479, 27, [v34331, v34333, .int .i64 t34323, .int .i64 t34324, .int .i64 t34325, v34335, v34337]), (g32460, 53, [.int .i64 x32457.f0, .string (x32457.f1.extract 0 ((mn (x32457.f1.size : Int) 150).toNat)), .bool x32457.f2, .int .u64 x32457.f3, .int .i64 x32457.f4]), (g6913, 27, [v26020, v26023, .int .i64 i26025, .int .i64 i26026, .int .i64 i26027, v26029, v26032])], [(v34341, 9, 1, ([x32457.f1.extract 0 ((mn (x32457.f1.size : Int) 150).toNat)] : List ByteArray).map enc_str), (v34339, 9, 1, ([x32457.f1.extract 0 ((mn (x32457.f1.size : Int) 150).toNat)] : List ByteArray).map enc_str), (v34335, 9, 1, r34326.map enc_str), (v34337, 9, 1, r34327.map enc_str), (v32477, 9, 1, ((([] : List ByteArray) ++ l26033) ++ l26030).map enc_str)]⟩) (fun (v34339 : Value) (v34341 : Value) => True) ?_ ?_
          · refine VC.draw ⟨0, [], [], [(g32460, 53, [.int .i64 x32457.f0, .string (x32457.f1.extract 0 ((mn (x32457.f1.size : Int) 150).toNat)), .bool x32457.f2, .int .u64 x32457.f3, .int .i64 x32457.f4])], []⟩ (by kernel_rfl) rfl (by kernel_rfl) (n := 8) (listed := LB 8 0) <|
             aw 0 1 rfl (op_fieldAddr FI53_1 rfl (add_at _ _ _)) ⟨trivial, ⟨⟨1, rfl⟩, trivial⟩, trivial⟩ <| aw 1 3 rfl (op_load 0 1 rfl rfl TI9 rfl (by decide)) ⟨trivial, ⟨⟨1, rfl⟩, trivial⟩, trivial⟩ <| aw 3 11 rfl (op_fieldAddr FI53_1 rfl (add_at _ _ _)) ⟨trivial, ⟨⟨1, rfl⟩, trivial⟩, trivial⟩ <|
             aw 4 27 rfl (op_load 0 1 rfl rfl TI9 rfl (by decide)) ⟨trivial, ⟨⟨1, rfl⟩, trivial⟩, trivial⟩ <| VA.all [2, 5] (by kernel_rfl) (by simp) <|
             VAll.consG (listed' := LB 8 31) rfl (o_buildSlice (vals := [(0, .string (x32457.f1.extract 0 ((mn (x32457.f1.size : Int) 150).toNat)))]) (cells := #[.string (x32457.f1.extract 0 ((mn (x32457.f1.size : Int) 150).toNat))]) (es := List.map enc_str ([x32457.f1.extract 0 ((mn (x32457.f1.size : Int) 150).toNat)] : List ByteArray)) Try.underlying22 TI9 Z9 rfl (by decide) (by decide) (by kernel_rfl) (by kernel_rfl) rfl (flat_map enc_str_ok _)) rfl (by kernel_rfl) (fun _ => ⟨trivial, ⟨⟨1, rfl⟩, trivial⟩, trivial⟩) ?_ ?_
            · intro v34339
              exact VA.more ⟨0, [], [], [(g32460, 53, [.int .i64 x32457.f0, .string (x32457.f1.extract 0 ((mn (x32457.f1.size : Int) 150).toNat)), .bool x32457.f2, .int .u64 x32457.f3, .int .i64 x32457.f4])], [(v34339, 9, 1, ([x32457.f1.extract 0 ((mn (x32457.f1.size : Int) 150).toNat)] : List ByteArray).map enc_str)]⟩ ⟨trivial, ⟨⟨0, rfl⟩, trivial⟩, trivial⟩ <|
               aw 6 95 rfl (ag rfl) ⟨trivial, ⟨⟨1, rfl⟩, trivial⟩, ⟨⟨0, rfl⟩, trivial⟩⟩ <|
               VA.oneG (i := 5) (listed' := LB 8 127) (by kernel_rfl) rfl (o_buildSlice (vals := [(0, .string (x32457.f1.extract 0 ((mn (x32457.f1.size : Int) 150).toNat)))]) (cells := #[.string (x32457.f1.extract 0 ((mn (x32457.f1.size : Int) 150).toNat))]) (es := List.map enc_str ([x32457.f1.extract 0 ((mn (x32457.f1.size : Int) 150).toNat)] : List ByteArray)) Try.underlying22 TI9 Z9 rfl (by decide) (by decide) (by kernel_rfl) (by kernel_rfl) rfl (flat_map enc_str_ok _)) rfl (by kernel_rfl) (fun _ => ⟨trivial, ⟨⟨1, rfl⟩, trivial⟩, ⟨⟨1, rfl⟩, trivial⟩⟩) fun v34341 => VA.more ⟨0, [], [], [(g32460, 53, [.int .i64 x32457.f0, .string (x32457.f1.extract 0 ((mn (x32457.f1.size : Int) 150).toNat)), .bool x32457.f2, .int .u64 x32457.f3, .int .i64 x32457.f4])], [(v34339, 9, 1, ([x32457.f1.extract 0 ((mn (x32457.f1.size : Int) 150).toNat)] : List ByteArray).map enc_str), (v34341, 9, 1, ([x32457.f1.extract 0 ((mn (x32457.f1.size : Int) 150).toNat)] : List ByteArray).map enc_str)]⟩ ⟨trivial, ⟨⟨0, rfl⟩, trivial⟩, ⟨⟨0, rfl⟩, trivial⟩⟩ <|
               aw 7 255 rfl (ag rfl) ⟨trivial, ⟨⟨1, rfl⟩, trivial⟩, ⟨⟨1, rfl⟩, ⟨0, rfl⟩, trivial⟩⟩ <| VA.done (by kernel_rfl) <|
               VN.meet2 v34339 v34341 [0, 1, 2] [0, 1, 2, 3, 4] trivial ⟨rfl, ⟨rfl, rfl, rfl, rfl, rfl, rfl, rfl, rfl, rfl, rfl, rfl, rfl, rfl, rfl, rfl, rfl, rfl, rfl, rfl, rfl, rfl, rfl, rfl, rfl, rfl, rfl, rfl, rfl, rfl, rfl, rfl, rfl, rfl, rfl, rfl, rfl, rfl, rfl, rfl, rfl, rfl, rfl, rfl, rfl, rfl, rfl, rfl, rfl, rfl, rfl, rfl, rfl, rfl, rfl, rfl, trivial⟩, ⟨⟨0, rfl⟩, ⟨1, rfl⟩, ⟨2, rfl⟩, ⟨3, rfl⟩, ⟨4, rfl⟩, ⟨5, rfl⟩, ⟨6, rfl⟩, trivial⟩, rfl, by decide, rfl, by decide⟩
            refine VAll.consG (listed' := LB 8 59) rfl (o_buildSlice (vals := [(0, .string (x32457.f1.extract 0 ((mn (x32457.f1.size : Int) 150).toNat)))]) (cells := #[.string (x32457.f1.extract 0 ((mn (x32457.f1.size : Int) 150).toNat))]) (es := List.map enc_str ([x32457.f1.extract 0 ((mn (x32457.f1.size : Int) 150).toNat)] : List ByteArray)) Try.underlying22 TI9 Z9 rfl (by decide) (by decide) (by kernel_rfl) (by kernel_rfl) rfl (flat_map enc_str_ok _)) rfl (by kernel_rfl) (fun _ => ⟨trivial, ⟨⟨1, rfl⟩, trivial⟩, trivial⟩) ?_ VAll.nil
            intro v34341
            exact VA.oneG (i := 2) (listed' := LB 8 63) (by kernel_rfl) rfl (o_buildSlice (vals := [(0, .string (x32457.f1.extract 0 ((mn (x32457.f1.size : Int) 150).toNat)))]) (cells := #[.string (x32457.f1.extract 0 ((mn (x32457.f1.size : Int) 150).toNat))]) (es := List.map enc_str ([x32457.f1.extract 0 ((mn (x32457.f1.size : Int) 150).toNat)] : List ByteArray)) Try.underlying22 TI9 Z9 rfl (by decide) (by decide) (by kernel_rfl) (by kernel_rfl) rfl (flat_map enc_str_ok _)) rfl (by kernel_rfl) (fun _ => ⟨trivial, ⟨⟨1, rfl⟩, trivial⟩, trivial⟩) fun v34339 => VA.more ⟨0, [], [], [(g32460, 53, [.int .i64 x32457.f0, .string (x32457.f1.extract 0 ((mn (x32457.f1.size : Int) 150).toNat)), .bool x32457.f2, .int .u64 x32457.f3, .int .i64 x32457.f4])], [(v34339, 9, 1, ([x32457.f1.extract 0 ((mn (x32457.f1.size : Int) 150).toNat)] : List ByteArray).map enc_str)]⟩ ⟨trivial, ⟨⟨0, rfl⟩, trivial⟩, trivial⟩ <|
             aw 6 127 rfl (ag rfl) ⟨trivial, ⟨⟨1, rfl⟩, trivial⟩, ⟨⟨0, rfl⟩, trivial⟩⟩ <|
             VA.more ⟨0, [], [], [(g32460, 53, [.int .i64 x32457.f0, .string (x32457.f1.extract 0 ((mn (x32457.f1.size : Int) 150).toNat)), .bool x32457.f2, .int .u64 x32457.f3, .int .i64 x32457.f4])], [(v34339, 9, 1, ([x32457.f1.extract 0 ((mn (x32457.f1.size : Int) 150).toNat)] : List ByteArray).map enc_str), (v34341, 9, 1, ([x32457.f1.extract 0 ((mn (x32457.f1.size : Int) 150).toNat)] : List ByteArray).map enc_str)]⟩ ⟨trivial, ⟨⟨0, rfl⟩, trivial⟩, ⟨⟨0, rfl⟩, trivial⟩⟩ <|
             aw 7 255 rfl (ag rfl) ⟨trivial, ⟨⟨1, rfl⟩, trivial⟩, ⟨⟨0, rfl⟩, ⟨1, rfl⟩, trivial⟩⟩ <| VA.done (by kernel_rfl) <|
             VN.meet2 v34339 v34341 [0, 1, 2] [1, 0, 2, 3, 4] trivial ⟨rfl, ⟨rfl, rfl, rfl, rfl, rfl, rfl, rfl, rfl, rfl, rfl, rfl, rfl, rfl, rfl, rfl, rfl, rfl, rfl, rfl, rfl, rfl, rfl, rfl, rfl, rfl, rfl, rfl, rfl, rfl, rfl, rfl, rfl, rfl, rfl, rfl, rfl, rfl, rfl, rfl, rfl, rfl, rfl, rfl, rfl, rfl, rfl, rfl, rfl, rfl, rfl, rfl, rfl, rfl, rfl, rfl, trivial⟩, ⟨⟨0, rfl⟩, ⟨1, rfl⟩, ⟨2, rfl⟩, ⟨3, rfl⟩, ⟨4, rfl⟩, ⟨5, rfl⟩, ⟨6, rfl⟩, trivial⟩, rfl, by decide, rfl, by decide⟩
          intro v34339 v34341 _
          refine VN.block <| VN.freezeRow' 1 rfl <| VN.freezeRow' 0 rfl <| VN.freezeRow' 0 rfl <| VN.freezeRow' 0 rfl <| VN.freezeRow' 0 rfl <|
           VN.meet20 v34339 ([x32457.f1.extract 0 ((mn (x32457.f1.size : Int) 150).toNat)] : List ByteArray) v34341 ([x32457.f1.extract 0 ((mn (x32457.f1.size : Int) 150).toNat)] : List ByteArray) t34328 x32457.f2 false false v34331 r34321 v34333 r34322 t34323 t34324 t34325 v34335 r34326 v34337 r34327 x32457.f2 [0, 1, 2] [] h ⟨rfl, ⟨rfl, rfl, rfl, rfl, rfl, rfl, rfl, rfl, rfl, rfl, rfl, rfl, rfl, rfl, rfl, rfl, rfl, rfl, rfl, rfl, rfl, rfl, rfl, rfl, rfl, rfl, rfl, rfl, rfl, rfl, rfl, rfl, rfl, rfl, rfl, rfl, rfl, rfl, trivial⟩, ⟨⟨4, rfl⟩, ⟨3, rfl⟩, ⟨5, rfl⟩, ⟨6, rfl⟩, ⟨2, rfl⟩, ⟨1, rfl⟩, ⟨11, rfl⟩, ⟨10, rfl⟩, ⟨9, rfl⟩, ⟨0, rfl⟩, ⟨7, rfl⟩, ⟨8, rfl⟩, trivial⟩, rfl, by decide, rfl, by decide⟩
        obtain rfl : b34319 = false := hb34319.symm.trans (beq_eq_false_iff_ne.2 c34320)
        refine cf <| sr <| vs rfl <| ds <| sr <| va (op_fieldAddr FI53_0 rfl (add_at _ _ _)) <| va (op_load 1 1 rfl rfl TI3 rfl (by decide)) <| va (op_rem rfl rfl (by decide) rfl) <| va (op_ari64 rfl rfl rfl) <| va (op_rem rfl rfl (by decide) rfl) <|
         VL.letter ((((wrap64 ((x32457.f0.tmod 5) + 5)).tmod 5) == 4)) fun b34347 hb34347 => va (op_cmp rfl rfl (congrArg some hb34347)) <| dt <| ?_
        replace h := iC h
        rcases h with ⟨c34348, h⟩ | ⟨c34348, h⟩
        · obtain rfl : b34347 = true := hb34347.symm.trans (beq_iff_eq.2 c34348)
          refine ct <| sr <| va (op_fieldAddr FI53_1 rfl (add_at _ _ _)) <| va (op_load 1 1 rfl rfl TI9 rfl (by decide)) <| ?_
          replace h := iN h
          obtain ⟨c34349, h⟩ := h
          refine va (op_adds rfl rfl rfl c34349) <| vs rfl <| dr <| vm rfl <|
           sG (o_buildSlice (vals := [(0, .string ((⟨#[119]⟩ : ByteArray) ++ (x32457.f1.extract 0 ((mn (x32457.f1.size : Int) 150).toNat))))]) (cells := #[.string ((⟨#[119]⟩ : ByteArray) ++ (x32457.f1.extract 0 ((mn (x32457.f1.size : Int) 150).toNat)))]) (es := List.map enc_str ([(⟨#[119]⟩ : ByteArray) ++ (x32457.f1.extract 0 ((mn (x32457.f1.size : Int) 150).toNat))] : List ByteArray)) Try.underlying22 TI9 Z9 rfl (by decide) (by decide) (by kernel_rfl) (by kernel_rfl) rfl (flat_map enc_str_ok _)) fun v34351 => vs rfl <|
           ds <| sr <| va (op_fieldAddr FI53_2 rfl (add_at _ _ _)) <| va (op_load 1 1 rfl rfl TI4 rfl (by decide)) <| ?_
          replace h := iC h
          rcases h with ⟨c34355, h⟩ | ⟨c34355, h⟩
          · rw [c34355]
            refine va (op_not rfl rfl) <| dt <| cf <| sk <| sr <| va (op_load 2 7 rfl rfl TI27 rfl (fun h => absurd h (by decide))) <| vm rfl <| va (op_fieldAddr FI53_2 rfl (add_at _ _ _)) <| va (op_load 1 1 rfl rfl TI4 rfl (by decide)) <| va (op_fieldAddr FI53_3 rfl (add_at _ _ _)) <|
             va (op_load 1 1 rfl rfl TI47 rfl (by decide)) <| va (op_fieldAddr FI53_4 rfl (add_at _ _ _)) <| va (op_load 1 1 rfl rfl TI3 rfl (by decide)) <| ?_
            replace h := bd h
            obtain ⟨⟨r34356, r34357, t34358⟩, hA34359, h⟩ := h
            dsimp only at h
            refine sC (o_call0 FO20 (journal_Crash.ok k l26021 l26024 i26025 i26026 i26027 l26030 l26033 ((⟨#[119]⟩ : ByteArray) ++ (x32457.f1.extract 0 ((mn (x32457.f1.size : Int) 150).toNat))) true x32457.f3 x32457.f4 v26020 v26023 v26029 v26032 r34356 r34357 t34358 hA34359) rfl rfl (ltn rfl) (All_of (.cons (mG 0 rfl) (.cons (mG 1 rfl) (.cons (mG 2 rfl) (.cons (mG 3 rfl) .nil)))))) <|
             ?_
            rintro _ _ _ ⟨v34361, v34363, rfl, rfl, rfl⟩
            refine vm rfl <| va (op_extract rfl rfl) <| va (op_extract rfl rfl) <| sG (o_alloc Z25 ZL25) fun g34364 => s1 (o_store 0 2 rfl rfl rfl TI25 (.agg (.r 0 rfl (.r 1 rfl .nil))) rfl (len rfl)) <| vs rfl <| ds <| sr <| vm rfl <|
             VL.letter ((t34358 == 7)) fun b34367 hb34367 => va (op_cmp rfl rfl (congrArg some hb34367)) <| dt <| ?_
            replace h := iC h
            rcases h with ⟨c34368, h⟩ | ⟨c34368, h⟩
            · obtain rfl : b34367 = true := hb34367.symm.trans (beq_iff_eq.2 c34368)
              refine ct <| VC.exit <| VX.then <| VX.miss (by decide) <| VX.then <| VX.hit <| tr <| va (op_ari64 rfl rfl rfl) <| vm rfl <| dn <|
               VN.again [3] [] (ihl17 (wrap64 (i26018 + 1)) v26020 l26021 v26023 l26024 i26025 i26026 i26027 v26029 l26030 v26032 l26033 h) ⟨rfl, ⟨rfl, rfl, rfl, rfl, rfl, trivial⟩, ⟨⟨0, rfl⟩, ⟨1, rfl⟩, ⟨2, rfl⟩, ⟨3, rfl⟩, ⟨4, rfl⟩, trivial⟩, rfl, by decide, rfl, by decide⟩
            obtain rfl : b34367 = false := hb34367.symm.trans (beq_eq_false_iff_ne.2 c34368)
            refine cf <| sk <| sq <| sr <| vm rfl <| VL.letter ((t34358 != 0)) fun b34371 hb34371 => va (op_cmp rfl rfl (congrArg some hb34371)) <| dt <| ?_
            replace h := iC h
            rcases h with ⟨c34372, h⟩ | ⟨c34372, h⟩
            · obtain rfl : b34371 = false := hb34371.symm.trans (bne_eq_false_iff_eq.2 c34372)
              refine cf <| sk <| rg <| va (op_load 0 2 rfl rfl TI25 rfl (fun h => absurd h (by decide))) <| VL.freezeRow' 0 rfl <| VL.freezeRow' 0 rfl <| ?_
              replace h := bd h
              obtain ⟨⟨r34373, r34374, t34375, t34376, t34377, r34378, r34379, t34380⟩, hA34381, h⟩ := h
              dsimp only at h
              refine sC (o_call0 FO9 (journal_Open.ok k r34356 r34357 v34361 v34363 r34373 r34374 t34375 t34376 t34377 r34378 r34379 t34380 hA34381) rfl rfl (ltn rfl) (All_of (.cons (mG 1 rfl) (.cons (mG 0 rfl) .nil)))) <| ?_
              rintro _ _ _ ⟨v34383, v34385, v34387, v34389, rfl, rfl, rfl⟩
              refine vm rfl <| va (op_extract rfl rfl) <| va (op_extract rfl rfl) <| s1 (o_store 1 7 rfl rfl rfl TI27 (.agg (.f 0 rfl (.f 1 rfl (.c rfl (.c rfl (.c rfl (.r 0 rfl (.r 1 rfl .nil)))))))) rfl (len rfl)) <| vs rfl <| dn <| VN.block <| VN.freezeRow' 2 rfl <| VN.freezeRow' 0 rfl <|
               VN.freezeRow' 0 rfl <| VN.freezeRow' 0 rfl <|
               VN.meet20 v26032 l26033 v34351 ([(⟨#[119]⟩ : ByteArray) ++ (x32457.f1.extract 0 ((mn (x32457.f1.size : Int) 150).toNat))] : List ByteArray) t34380 true false false v34383 r34373 v34385 r34374 t34375 t34376 t34377 v34387 r34378 v34389 r34379 true [1, 2, 3] [] h ⟨rfl, ⟨rfl, rfl, rfl, rfl, rfl, rfl, rfl, rfl, rfl, rfl, rfl, rfl, rfl, rfl, rfl, rfl, rfl, rfl, rfl, rfl, rfl, rfl, rfl, rfl, rfl, rfl, rfl, rfl, rfl, rfl, rfl, rfl, rfl, rfl, rfl, rfl, rfl, rfl, trivial⟩, ⟨⟨11, rfl⟩, ⟨3, rfl⟩, ⟨4, rfl⟩, ⟨5, rfl⟩, ⟨2, rfl⟩, ⟨1, rfl⟩, ⟨12, rfl⟩, ⟨11, rfl⟩, ⟨10, rfl⟩, ⟨0, rfl⟩, ⟨8, rfl⟩, ⟨9, rfl⟩, trivial⟩, rfl, by decide, rfl, by decide⟩
            obtain rfl : b34371 = true := hb34371.symm.trans (bne_iff_ne.2 c34372)
            refine ct <| sr <| vs rfl <| dt <| VC.ret <| VR.then <| VR.block <| VR.then <| VR.block <| VR.then <| VR.then <| VR.block <| VR.then <| ?_
            cases h
          rw [Bool.eq_false_iff.2 c34355]
          refine va (op_not rfl rfl) <| dt <| ct <| rg <| vm rfl <| vs rfl <| nx <| va (op_load 2 7 rfl rfl TI27 rfl (fun h => absurd h (by decide))) <| vm rfl <| va (op_fieldAddr FI53_2 rfl (add_at _ _ _)) <| va (op_load 1 1 rfl rfl TI4 rfl (by decide)) <| va (op_fieldAddr FI53_3 rfl (add_at _ _ _)) <|
           va (op_load 1 1 rfl rfl TI47 rfl (by decide)) <| va (op_fieldAddr FI53_4 rfl (add_at _ _ _)) <| va (op_load 1 1 rfl rfl TI3 rfl (by decide)) <| ?_
          replace h := bd h
          obtain ⟨⟨r34390, r34391, t34392⟩, hA34393, h⟩ := h
          dsimp only at h
          refine sC (o_call0 FO20 (journal_Crash.ok k l26021 l26024 i26025 i26026 i26027 l26030 l26033 ((⟨#[119]⟩ : ByteArray) ++ (x32457.f1.extract 0 ((mn (x32457.f1.size : Int) 150).toNat))) false x32457.f3 x32457.f4 v26020 v26023 v26029 v26032 r34390 r34391 t34392 hA34393) rfl rfl (ltn rfl) (All_of (.cons (mG 0 rfl) (.cons (mG 1 rfl) (.cons (mG 2 rfl) (.cons (mG 3 rfl) .nil)))))) <|
           ?_
          rintro _ _ _ ⟨v34395, v34397, rfl, rfl, rfl⟩
          refine vm rfl <| va (op_extract rfl rfl) <| va (op_extract rfl rfl) <| sG (o_alloc Z25 ZL25) fun g34398 => s1 (o_store 0 2 rfl rfl rfl TI25 (.agg (.r 0 rfl (.r 1 rfl .nil))) rfl (len rfl)) <| vs rfl <| ds <| sr <| vm rfl <|
           VL.letter ((t34392 == 7)) fun b34401 hb34401 => va (op_cmp rfl rfl (congrArg some hb34401)) <| dt <| ?_
          replace h := iC h
          rcases h with ⟨c34402, h⟩ | ⟨c34402, h⟩
          · obtain rfl : b34401 = true := hb34401.symm.trans (beq_iff_eq.2 c34402)
            refine ct <| VC.exit <| VX.then <| VX.miss (by decide) <| VX.then <| VX.hit <| tr <| va (op_ari64 rfl rfl rfl) <| vm rfl <| dn <|
             VN.again [3] [] (ihl17 (wrap64 (i26018 + 1)) v26020 l26021 v26023 l26024 i26025 i26026 i26027 v26029 l26030 v26032 l26033 h) ⟨rfl, ⟨rfl, rfl, rfl, rfl, rfl, trivial⟩, ⟨⟨0, rfl⟩, ⟨1, rfl⟩, ⟨2, rfl⟩, ⟨3, rfl⟩, ⟨4, rfl⟩, trivial⟩, rfl, by decide, rfl, by decide⟩
          obtain rfl : b34401 = false := hb34401.symm.trans (beq_eq_false_iff_ne.2 c34402)
          refine cf <| sk <| sq <| sr <| vm rfl <| VL.letter ((t34392 != 0)) fun b34405 hb34405 => va (op_cmp rfl rfl (congrArg some hb34405)) <| dt <| ?_
          replace h := iC h
          rcases h with ⟨c34406, h⟩ | ⟨c34406, h⟩
          · obtain rfl : b34405 = false := hb34405.symm.trans (bne_eq_false_iff_eq.2 c34406)
            refine cf <| sk <| rg <| va (op_load 0 2 rfl rfl TI25 rfl (fun h => absurd h (by decide))) <| VL.freezeRow' 0 rfl <| VL.freezeRow' 0 rfl <| ?_
            replace h := bd h
            obtain ⟨⟨r34407, r34408, t34409, t34410, t34411, r34412, r34413, t34414⟩, hA34415, h⟩ := h
            dsimp only at h
            refine sC (o_call0 FO9 (journal_Open.ok k r34390 r34391 v34395 v34397 r34407 r34408 t34409 t34410 t34411 r34412 r34413 t34414 hA34415) rfl rfl (ltn rfl) (All_of (.cons (mG 1 rfl) (.cons (mG 0 rfl) .nil)))) <| ?_
            rintro _ _ _ ⟨v34417, v34419, v34421, v34423, rfl, rfl, rfl⟩
            refine vm rfl <| va (op_extract rfl rfl) <| va (op_extract rfl rfl) <| s1 (o_store 1 7 rfl rfl rfl TI27 (.agg (.f 0 rfl (.f 1 rfl (.c rfl (.c rfl (.c rfl (.r 0 rfl (.r 1 rfl .nil)))))))) rfl (len rfl)) <| vs rfl <| dn <| VN.block <| VN.freezeRow' 0 rfl <| VN.freezeRow' 0 rfl <|
             VN.freezeRow' 1 rfl <| VN.meet20 v26032 l26033 v26032 l26033 t34414 false false false v34417 r34407 v34419 r34408 t34409 t34410 t34411 v34421 r34412 v34423 r34413 false [1, 2, 3] [] h ⟨rfl, ⟨rfl, rfl, rfl, rfl, rfl, rfl, rfl, rfl, rfl, rfl, rfl, rfl, rfl, rfl, rfl, rfl, rfl, rfl, rfl, rfl, rfl, rfl, rfl, rfl, rfl, rfl, rfl, rfl, rfl, rfl, rfl, rfl, rfl, rfl, rfl, rfl, rfl, rfl, trivial⟩, ⟨⟨10, rfl⟩, ⟨10, rfl⟩, ⟨3, rfl⟩, ⟨4, rfl⟩, ⟨2, rfl⟩, ⟨1, rfl⟩, ⟨11, rfl⟩, ⟨10, rfl⟩, ⟨9, rfl⟩, ⟨0, rfl⟩, ⟨7, rfl⟩, ⟨8, rfl⟩, trivial⟩, rfl, by decide, rfl, by decide⟩
          obtain rfl : b34405 = true := hb34405.symm.trans (bne_iff_ne.2 c34406)
          refine ct <| sr <| vs rfl <| dt <| VC.ret <| VR.then <| VR.block <| VR.then <| VR.block <| VR.then <| VR.then <| VR.block <| VR.then <| ?_
          cases h
        obtain rfl : b34347 = false := hb34347.symm.trans (beq_eq_false_iff_ne.2 c34348)
        refine cf <| sk <| sq <| sr <| va (op_fieldAddr FI53_2 rfl (add_at _ _ _)) <| va (op_load 1 1 rfl rfl TI4 rfl (by decide)) <| ?_
        replace h := iC h
        rcases h with ⟨c34427, h⟩ | ⟨c34427, h⟩
        · rw [c34427]
          refine va (op_not rfl rfl) <| dt <| cf <| sk <| sr <| va (op_load 2 7 rfl rfl TI27 rfl (fun h => absurd h (by decide))) <| vm rfl <| va (op_fieldAddr FI53_2 rfl (add_at _ _ _)) <| va (op_load 1 1 rfl rfl TI4 rfl (by decide)) <| va (op_fieldAddr FI53_3 rfl (add_at _ _ _)) <|
           va (op_load 1 1 rfl rfl TI47 rfl (by decide)) <| va (op_fieldAddr FI53_4 rfl (add_at _ _ _)) <| va (op_load 1 1 rfl rfl TI3 rfl (by decide)) <| ?_
          replace h := bd h
          obtain ⟨⟨r34428, r34429, t34430⟩, hA34431, h⟩ := h
          dsimp only at h
          refine sC (o_call0 FO20 (journal_Crash.ok k l26021 l26024 i26025 i26026 i26027 l26030 l26033 (⟨#[]⟩ : ByteArray) true x32457.f3 x32457.f4 v26020 v26023 v26029 v26032 r34428 r34429 t34430 hA34431) rfl rfl (ltn rfl) (All_of (.cons (mG 0 rfl) (.cons (mG 1 rfl) (.cons (mG 2 rfl) (.cons (mG 3 rfl) .nil)))))) <|
           ?_
          rintro _ _ _ ⟨v34433, v34435, rfl, rfl, rfl⟩
          refine vm rfl <| va (op_extract rfl rfl) <| va (op_extract rfl rfl) <| sG (o_alloc Z25 ZL25) fun g34436 => s1 (o_store 0 2 rfl rfl rfl TI25 (.agg (.r 0 rfl (.r 1 rfl .nil))) rfl (len rfl)) <| vs rfl <| ds <| sr <| vm rfl <|
           VL.letter ((t34430 == 7)) fun b34439 hb34439 => va (op_cmp rfl rfl (congrArg some hb34439)) <| dt <| ?_
          replace h := iC h
          rcases h with ⟨c34440, h⟩ | ⟨c34440, h⟩
          · obtain rfl : b34439 = true := hb34439.symm.trans (beq_iff_eq.2 c34440)
            refine ct <| VC.exit <| VX.then <| VX.miss (by decide) <| VX.then <| VX.hit <| tr <| va (op_ari64 rfl rfl rfl) <| vm rfl <| dn <|
             VN.again [3] [] (ihl17 (wrap64 (i26018 + 1)) v26020 l26021 v26023 l26024 i26025 i26026 i26027 v26029 l26030 v26032 l26033 h) ⟨rfl, ⟨rfl, rfl, rfl, rfl, rfl, trivial⟩, ⟨⟨0, rfl⟩, ⟨1, rfl⟩, ⟨2, rfl⟩, ⟨3, rfl⟩, ⟨4, rfl⟩, trivial⟩, rfl, by decide, rfl, by decide⟩
          obtain rfl : b34439 = false := hb34439.symm.trans (beq_eq_false_iff_ne.2 c34440)
          refine cf <| sk <| sq <| sr <| vm rfl <| VL.letter ((t34430 != 0)) fun b34443 hb34443 => va (op_cmp rfl rfl (congrArg some hb34443)) <| dt <| ?_
          replace h := iC h
          rcases h with ⟨c34444, h⟩ | ⟨c34444, h⟩
          · obtain rfl : b34443 = false := hb34443.symm.trans (bne_eq_false_iff_eq.2 c34444)
            refine cf <| sk <| rg <| va (op_load 0 2 rfl rfl TI25 rfl (fun h => absurd h (by decide))) <| VL.freezeRow' 0 rfl <| VL.freezeRow' 0 rfl <| ?_
            replace h := bd h
            obtain ⟨⟨r34445, r34446, t34447, t34448, t34449, r34450, r34451, t34452⟩, hA34453, h⟩ := h
            dsimp only at h
            refine sC (o_call0 FO9 (journal_Open.ok k r34428 r34429 v34433 v34435 r34445 r34446 t34447 t34448 t34449 r34450 r34451 t34452 hA34453) rfl rfl (ltn rfl) (All_of (.cons (mG 1 rfl) (.cons (mG 0 rfl) .nil)))) <| ?_
            rintro _ _ _ ⟨v34455, v34457, v34459, v34461, rfl, rfl, rfl⟩
            refine vm rfl <| va (op_extract rfl rfl) <| va (op_extract rfl rfl) <| s1 (o_store 1 7 rfl rfl rfl TI27 (.agg (.f 0 rfl (.f 1 rfl (.c rfl (.c rfl (.c rfl (.r 0 rfl (.r 1 rfl .nil)))))))) rfl (len rfl)) <| vs rfl <| dn <| VN.block <| VN.freezeRow' 2 rfl <| VN.freezeRow' 0 rfl <|
             VN.freezeRow' 0 rfl <| VN.meet20 v26032 l26033 v32477 ((([] : List ByteArray) ++ l26033) ++ l26030) t34452 true false false v34455 r34445 v34457 r34446 t34447 t34448 t34449 v34459 r34450 v34461 r34451 true [1, 2, 3] [] h ⟨rfl, ⟨rfl, rfl, rfl, rfl, rfl, rfl, rfl, rfl, rfl, rfl, rfl, rfl, rfl, rfl, rfl, rfl, rfl, rfl, rfl, rfl, rfl, rfl, rfl, rfl, rfl, rfl, rfl, rfl, rfl, rfl, rfl, rfl, rfl, rfl, rfl, rfl, rfl, rfl, trivial⟩, ⟨⟨10, rfl⟩, ⟨2, rfl⟩, ⟨3, rfl⟩, ⟨4, rfl⟩, ⟨1, rfl⟩, ⟨0, rfl⟩, ⟨11, rfl⟩, ⟨10, rfl⟩, ⟨9, rfl⟩, ⟨2, rfl⟩, ⟨7, rfl⟩, ⟨8, rfl⟩, trivial⟩, rfl, by decide, rfl, by decide⟩
          obtain rfl : b34443 = true := hb34443.symm.trans (bne_iff_ne.2 c34444)
          refine ct <| sr <| vs rfl <| dt <| VC.ret <| VR.then <| VR.block <| VR.then <| VR.block <| VR.then <| VR.then <| VR.block <| VR.then <| ?_
          cases h
        rw [Bool.eq_false_iff.2 c34427]
        refine va (op_not rfl rfl) <| dt <| ct <| rg <| vm rfl <| vs rfl <| nx <| va (op_load 2 7 rfl rfl TI27 rfl (fun h => absurd h (by decide))) <| vm rfl <| va (op_fieldAddr FI53_2 rfl (add_at _ _ _)) <| va (op_load 1 1 rfl rfl TI4 rfl (by decide)) <| va (op_fieldAddr FI53_3 rfl (add_at _ _ _)) <|
         va (op_load 1 1 rfl rfl TI47 rfl (by decide)) <| va (op_fieldAddr FI53_4 rfl (add_at _ _ _)) <| va (op_load 1 1 rfl rfl TI3 rfl (by decide)) <| ?_
        replace h := bd h
        obtain ⟨⟨r34462, r34463, t34464⟩, hA34465, h⟩ := h
        dsimp only at h
        refine sC (o_call0 FO20 (journal_Crash.ok k l26021 l26024 i26025 i26026 i26027 l26030 l26033 (⟨#[]⟩ : ByteArray) false x32457.f3 x32457.f4 v26020 v26023 v26029 v26032 r34462 r34463 t34464 hA34465) rfl rfl (ltn rfl) (All_of (.cons (mG 0 rfl) (.cons (mG 1 rfl) (.cons (mG 2 rfl) (.cons (mG 3 rfl) .nil)))))) <|
         ?_
        rintro _ _ _ ⟨v34467, v34469, rfl, rfl, rfl⟩
        refine vm rfl <| va (op_extract rfl rfl) <| va (op_extract rfl rfl) <| sG (o_alloc Z25 ZL25) fun g34470 => s1 (o_store 0 2 rfl rfl rfl TI25 (.agg (.r 0 rfl (.r 1 rfl .nil))) rfl (len rfl)) <| vs rfl <| ds <| sr <| vm rfl <|
         VL.letter ((t34464 == 7)) fun b34473 hb34473 => va (op_cmp rfl rfl (congrArg some hb34473)) <| dt <| ?_
        replace h := iC h
        rcases h with ⟨c34474, h⟩ | ⟨c34474, h⟩
        · obtain rfl : b34473 = true := hb34473.symm.trans (beq_iff_eq.2 c34474)
          refine ct <| VC.exit <| VX.then <| VX.miss (by decide) <| VX.then <| VX.hit <| tr <| va (op_ari64 rfl rfl rfl) <| vm rfl <| dn <|
           VN.again [3] [] (ihl17 (wrap64 (i26018 + 1)) v26020 l26021 v26023 l26024 i26025 i26026 i26027 v26029 l26030 v26032 l26033 h) ⟨rfl, ⟨rfl, rfl, rfl, rfl, rfl, trivial⟩, ⟨⟨0, rfl⟩, ⟨1, rfl⟩, ⟨2, rfl⟩, ⟨3, rfl⟩, ⟨4, rfl⟩, trivial⟩, rfl, by decide, rfl, by decide⟩
        obtain rfl : b34473 = false := hb34473.symm.trans (beq_eq_false_iff_ne.2 c34474)
        refine cf <| sk <| sq <| sr <| vm rfl <| VL.letter ((t34464 != 0)) fun b34477 hb34477 => va (op_cmp rfl rfl (congrArg some hb34477)) <| dt <| ?_
        replace h := iC h
        rcases h with ⟨c34478, h⟩ | ⟨c34478, h⟩
        · obtain rfl : b34477 = false := hb34477.symm.trans (bne_eq_false_iff_eq.2 c34478)
          refine cf <| sk <| rg <| va (op_load 0 2 rfl rfl TI25 rfl (fun h => absurd h (by decide))) <| VL.freezeRow' 0 rfl <| VL.freezeRow' 0 rfl <| ?_
          replace h := bd h
          obtain ⟨⟨r34479, r34480, t34481, t34482, t34483, r34484, r34485, t34486⟩, hA34487, h⟩ := h
          dsimp only at h
          refine sC (o_call0 FO9 (journal_Open.ok k r34462 r34463 v34467 v34469 r34479 r34480 t34481 t34482 t34483 r34484 r34485 t34486 hA34487) rfl rfl (ltn rfl) (All_of (.cons (mG 1 rfl) (.cons (mG 0 rfl) .nil)))) <| ?_
          rintro _ _ _ ⟨v34489, v34491, v34493, v34495, rfl, rfl, rfl⟩
          refine vm rfl <| va (op_extract rfl rfl) <| va (op_extract rfl rfl) <| s1 (o_store 1 7 rfl rfl rfl TI27 (.agg (.f 0 rfl (.f 1 rfl (.c rfl (.c rfl (.c rfl (.r 0 rfl (.r 1 rfl .nil)))))))) rfl (len rfl)) <| vs rfl <| dn <| VN.block <| VN.freezeRow' 0 rfl <| VN.freezeRow' 0 rfl <|
           VN.freezeRow' 0 rfl <| VN.meet20 v26032 l26033 v26032 l26033 t34486 false false false v34489 r34479 v34491 r34480 t34481 t34482 t34483 v34493 r34484 v34495 r34485 false [1, 2, 3] [] h ⟨rfl, ⟨rfl, rfl, rfl, rfl, rfl, rfl, rfl, rfl, rfl, rfl, rfl, rfl, rfl, rfl, rfl, rfl, rfl, rfl, rfl, rfl, rfl, rfl, rfl, rfl, rfl, rfl, rfl, rfl, rfl, rfl, rfl, rfl, rfl, rfl, rfl, rfl, rfl, rfl, trivial⟩, ⟨⟨10, rfl⟩, ⟨10, rfl⟩, ⟨3, rfl⟩, ⟨4, rfl⟩, ⟨2, rfl⟩, ⟨1, rfl⟩, ⟨11, rfl⟩, ⟨10, rfl⟩, ⟨9, rfl⟩, ⟨0, rfl⟩, ⟨7, rfl⟩, ⟨8, rfl⟩, trivial⟩, rfl, by decide, rfl, by decide⟩
        obtain rfl : b34477 = true := hb34477.symm.trans (bne_iff_ne.2 c34478)
        refine ct <| sr <| vs rfl <| dt <| VC.ret <| VR.then <| VR.block <| VR.then <| VR.block <| VR.then <| VR.then <| VR.block <| VR.then <| ?_
        cases h
      clear h
      intro v34497 l34498 v34500 l34501 i34502 q34503 q34504 q34505 v34507 l34508 v34510 l34511 i34512 i34513 i34514 v34516 l34517 v34519 l34520 q34521 h
      unfold tarrylaw05_JournalLives.j33 at h
      refine sq <| sr <| vm rfl <| VL.letter ((i34502 == 7)) fun b34524 hb34524 => va (op_cmp rfl rfl (congrArg some hb34524)) <| dt <| ?_
      replace h := iC h
      rcases h with ⟨c34525, h⟩ | ⟨c34525, h⟩
      · obtain rfl : b34524 = true := hb34524.symm.trans (beq_iff_eq.2 c34525)
        refine ct <| VC.exit <| VX.then <| VX.hit <| tr <| va (op_ari64 rfl rfl rfl) <| vm rfl <| dn <|
         VN.again [2] [] (ihl17 (wrap64 (i26018 + 1)) v26020 l26021 v26023 l26024 i26025 i26026 i26027 v26029 l26030 v26032 l26033 h) ⟨rfl, ⟨rfl, rfl, rfl, rfl, rfl, trivial⟩, ⟨⟨10, rfl⟩, ⟨11, rfl⟩, ⟨8, rfl⟩, ⟨7, rfl⟩, ⟨6, rfl⟩, trivial⟩, rfl, by decide, rfl, by decide⟩
      obtain rfl : b34524 = false := hb34524.symm.trans (beq_eq_false_iff_ne.2 c34525)
      refine cf <| sk <| sq <| sr <| vm rfl <| VL.letter ((i34502 != 0)) fun b34550 hb34550 => va (op_cmp rfl rfl (congrArg some hb34550)) <| vm rfl <| ?_
      replace h := iC h
      rcases h with ⟨c34551, h⟩ | ⟨c34551, h⟩
      · obtain rfl : b34550 = false := hb34550.symm.trans (bne_eq_false_iff_eq.2 c34551)
        refine va (op_fieldAddr FI27_5 rfl (add_at _ _ _)) <| va (op_load 0 1 rfl rfl TI22 rfl (by decide)) <| vm rfl <| ?_
        replace h := bd h
        obtain ⟨t34552, hA34553, h⟩ := h
        refine sC (o_call0 FO17 (tarryref01_Same.ok k l34520 l34498 v34519 v34497 t34552 hA34553) rfl rfl (ltn rfl) (All_of (.cons (mG 5 rfl) (.cons (mG 0 rfl) .nil)))) <| ?_
        rintro _ _ _ ⟨rfl, rfl, rfl⟩
        replace h := iC h
        rcases h with ⟨c34554, h⟩ | ⟨c34554, h⟩
        · obtain rfl := c34554
          refine va (op_not rfl rfl) <| vm rfl <| un rfl <| un rfl <| un rfl <| un rfl <| un rfl <| va (op_pick rfl rfl) <| va (op_pick rfl rfl) <| dt <| cf <| sk <| sr <| va (op_load 0 7 rfl rfl TI27 rfl (fun h => absurd h (by decide))) <|
           s1 (o_store 2 7 rfl rfl rfl TI27 (.agg (.f 2 rfl (.f 3 rfl (.c rfl (.c rfl (.c rfl (.f 4 rfl (.f 5 rfl .nil)))))))) rfl (len rfl)) <| nx <| va (op_load 2 7 rfl rfl TI27 rfl (fun h => absurd h (by decide))) <| ?_
          replace h := bd h
          obtain ⟨t34558, hA34559, h⟩ := h
          refine sC (o_call0 FO12 (journal_Right.ok k l34508 l34511 i34512 i34513 i34514 l34517 l34520 v34507 v34510 v34516 v34519 t34558 hA34559) rfl rfl (ltn rfl) (All_of (.cons (mG 2 rfl) (.cons (mG 3 rfl) (.cons (mG 4 rfl) (.cons (mG 5 rfl) .nil)))))) <| ?_
          rintro _ _ _ ⟨rfl, rfl, rfl⟩
          replace h := iC h
          rcases h with ⟨c34560, h⟩ | ⟨c34560, h⟩
          · obtain rfl := c34560
            refine va (op_not rfl rfl) <| dt <| cf <| VC.skip <| VN.block <| tr <| va (op_ari64 rfl rfl rfl) <| vm rfl <| dn <|
             VN.again [2] [] (ihl17 (wrap64 (i26018 + 1)) v34507 l34508 v34510 l34511 i34512 i34513 i34514 v34516 l34517 v34519 l34520 h) ⟨rfl, ⟨rfl, rfl, rfl, rfl, rfl, trivial⟩, ⟨⟨2, rfl⟩, ⟨3, rfl⟩, ⟨4, rfl⟩, ⟨5, rfl⟩, ⟨6, rfl⟩, trivial⟩, rfl, by decide, rfl, by decide⟩
          obtain rfl := Bool.eq_false_iff.2 c34560
          refine va (op_not rfl rfl) <| dt <| ct <| sr <| vs rfl <| dt <| VC.ret <| VR.block <| VR.then <| VR.then <| VR.block <| VR.then <| ?_
          cases h
        obtain rfl := Bool.eq_false_iff.2 c34554
        refine va (op_not rfl rfl) <| vm rfl <| va (op_fieldAddr FI27_5 rfl (add_at _ _ _)) <| va (op_load 0 1 rfl rfl TI22 rfl (by decide)) <| vm rfl <| ?_
        replace h := bd h
        obtain ⟨t34561, hA34562, h⟩ := h
        refine sC (o_call0 FO17 (tarryref01_Same.ok k l34520 l34501 v34519 v34500 t34561 hA34562) rfl rfl (ltn rfl) (All_of (.cons (mG 5 rfl) (.cons (mG 1 rfl) .nil)))) <| ?_
        rintro _ _ _ ⟨rfl, rfl, rfl⟩
        replace h := iC h
        rcases h with ⟨c34563, h⟩ | ⟨c34563, h⟩
        · obtain rfl := c34563
          refine va (op_not rfl rfl) <| va (op_pick rfl rfl) <| va (op_pick rfl rfl) <| dt <| cf <| sk <| sr <| va (op_load 0 7 rfl rfl TI27 rfl (fun h => absurd h (by decide))) <|
           s1 (o_store 2 7 rfl rfl rfl TI27 (.agg (.f 2 rfl (.f 3 rfl (.c rfl (.c rfl (.c rfl (.f 4 rfl (.f 5 rfl .nil)))))))) rfl (len rfl)) <| nx <| va (op_load 2 7 rfl rfl TI27 rfl (fun h => absurd h (by decide))) <| ?_
          replace h := bd h
          obtain ⟨t34567, hA34568, h⟩ := h
          refine sC (o_call0 FO12 (journal_Right.ok k l34508 l34511 i34512 i34513 i34514 l34517 l34520 v34507 v34510 v34516 v34519 t34567 hA34568) rfl rfl (ltn rfl) (All_of (.cons (mG 2 rfl) (.cons (mG 3 rfl) (.cons (mG 4 rfl) (.cons (mG 5 rfl) .nil)))))) <| ?_
          rintro _ _ _ ⟨rfl, rfl, rfl⟩
          replace h := iC h
          rcases h with ⟨c34569, h⟩ | ⟨c34569, h⟩
          · obtain rfl := c34569
            refine va (op_not rfl rfl) <| dt <| cf <| VC.skip <| VN.block <| tr <| va (op_ari64 rfl rfl rfl) <| vm rfl <| dn <|
             VN.again [2] [] (ihl17 (wrap64 (i26018 + 1)) v34507 l34508 v34510 l34511 i34512 i34513 i34514 v34516 l34517 v34519 l34520 h) ⟨rfl, ⟨rfl, rfl, rfl, rfl, rfl, trivial⟩, ⟨⟨2, rfl⟩, ⟨3, rfl⟩, ⟨4, rfl⟩, ⟨5, rfl⟩, ⟨6, rfl⟩, trivial⟩, rfl, by decide, rfl, by decide⟩
          obtain rfl := Bool.eq_false_iff.2 c34569
          refine va (op_not rfl rfl) <| dt <| ct <| sr <| vs rfl <| dt <| VC.ret <| VR.block <| VR.then <| VR.then <| VR.block <| VR.then <| ?_
          cases h
        obtain rfl := Bool.eq_false_iff.2 c34563
        refine va (op_not rfl rfl) <| va (op_pick rfl rfl) <| va (op_pick rfl rfl) <| dt <| ct <| sr <| vs rfl <| dt <| VC.ret <| VR.then <| VR.block <| VR.then <| VR.then <| VR.block <| VR.then <| ?_
        cases h
      obtain rfl : b34550 = true := hb34550.symm.trans (bne_iff_ne.2 c34551)
      refine un rfl <| un rfl <| un rfl <| un rfl <| un rfl <| un rfl <| un rfl <| un rfl <| un rfl <| un rfl <| un rfl <| un rfl <| va (op_pick rfl rfl) <| dt <| ct <| sr <| vs rfl <| dt <| VC.ret <| VR.then <| VR.block <| VR.then <| VR.then <| VR.block <| VR.then <| ?_
      cases h
    cases lF c30341 hb30257
    refine cf <| VC.exit <| VX.then <| VX.then <| VX.hit <| tx <| ?_
    replace h := bd h
    obtain ⟨t34570, hA34571, h⟩ := h
    refine sC (o_call0 FO14 (tarrylaw05_alive.ok k t34570 hA34571) rfl rfl (ltn rfl) (All_of .nil)) <| ?_
    rintro _ _ _ ⟨rfl, rfl, rfl⟩
    refine vs rfl <| dt <| VC.ret <| ?_
    obtain rfl := Option.some.inj h
    exact VR.fn (rs := [.tmp 4]) [] [] [] rfl (.tmp rfl .nil) ⟨rfl, rfl, rfl⟩ trivial rfl (by decide)
  obtain rfl : b6916 = true := hb6916.symm.trans (bne_iff_ne.2 c6917)
  refine ct <| sr <| vs rfl <| dt <| VC.ret <| VR.then <| ?_
  cases h

end Go.Proofs.Ytipeglbeongfmaa.PJournalLives
