/- Written by a program of this repo: what the program's functions do, each as a Lean function, shown of the loaded code; or a statement's row over that; no condition of its own. -/
import Derived.Test.YtlfkendmepdbkaaPDiskCrashesx1
namespace Go.Proofs.Ytlfkendmepdbkaa.PDiskCrashes
open Go Go.RowKit Go.Proofs.YtlfkendmepdbkaaV
set_option linter.unusedVariables false
set_option linter.unusedSimpArgs false

set_option maxHeartbeats 4000000 in
set_option maxRecDepth 100000 in
theorem disk_Crash.ok (k : Nat) (l0_0 : List ByteArray) (l0_1 : List S32) (a1 : Int) (a2 : Int) (v0_0 : Value) (v0_1 : Value) (r1 : List ByteArray) (r2 : List S32) (r3 : Int) (h : disk_Crash.f k l0_0 l0_1 a1 a2 = some (r1, r2, r3)) :
    VCalls Try.prog 7 [.agg #[v0_0, v0_1], .int .u64 a1, .int .i64 a2] [.row v0_0 1 (l0_0.map enc_str), .row v0_1 2 (l0_1.map enc32)] (fun v G own => ∃ w0 w1 : Value, v = .tuple #[.agg #[w0, w1], .int .i64 r3] ∧ G = [] ∧ own = [(w0, 9, 1, r1.map enc_str), (w1, 33, 2, r2.map enc32)]) := by
  refine VCalls.introU (fun T => T = 5) Try.func7 rfl (len rfl) fun E hC hW hD hU => ?_
  unfold disk_Crash.f at h
  refine VC.seq ?_
  refine VC.region ?_
  refine VL.sG (o_box rfl (.agg (.f 0 rfl (.f 1 rfl .nil))) (ltn rfl)) rfl ?_
  intro g336
  refine VL.sG (o_alloc Z25 ZL25 (ltn rfl)) rfl ?_
  intro g337
  refine VL.va (op_assign rfl (ltn rfl)) rfl ?_
  refine VL.done ?_
  refine VN.then ?_
  refine VC.seq ?_
  refine VC.seq ?_
  refine VC.region ?_
  refine VL.va (op_load 1 2 rfl rfl TI25 rfl (fun h => absurd h (by decide)) (ltn rfl)) rfl ?_
  replace h := Option.bind_eq_some_iff.1 h
  obtain ⟨t602, hA603, h⟩ := h
  refine VL.sC (o_call0 FO16 (disk_Right.ok k l0_0 l0_1 v0_0 v0_1 t602 hA603) rfl rfl (ltn rfl) (All_of (.cons (List.mem_of_getElem? (i := 0) rfl) (.cons (List.mem_of_getElem? (i := 1) rfl) .nil)))) rfl ?_
  rintro _ _ _ ⟨rfl, rfl, rfl⟩
  by_cases c604 : t602 = true
  · rw [if_pos c604] at h
    obtain rfl := c604
    refine VL.va (op_not rfl rfl (ltn rfl)) rfl ?_
    refine VL.done ?_
    refine VN.then ?_
    refine VC.cond_f rfl ?_
    refine VC.skip ?_
    refine VN.then ?_
    refine VC.seq ?_
    refine VC.region ?_
    refine VL.va (op_fieldAddr FI25_0 rfl (add_at _ _ _) (ltn rfl)) rfl ?_
    refine VL.va (op_load 1 1 rfl rfl TI22 rfl (by decide) (ltn rfl)) rfl ?_
    replace h := Option.bind_eq_some_iff.1 h
    obtain ⟨r605, hA606, h⟩ := h
    refine VL.sC (o_call_b0 FO19 (slices_Clone_string_string.ok l0_0 v0_0 r605 hA606) rfl rfl (ltn rfl) (All_of (.cons (.inl (List.mem_of_getElem? (i := 0) rfl)) .nil)) (by rintro _ _ _ ⟨_, rfl, rfl, rfl⟩; rfl)) rfl ?_
    rintro v608 _ _ ⟨_, rfl, rfl, rfl⟩
    refine VL.va (op_assign rfl (ltn rfl)) rfl ?_
    refine VL.done ?_
    refine VN.then ?_
    refine VC.seq ?_
    refine VC.region ?_
    refine VL.va (op_assign rfl (ltn rfl)) rfl ?_
    refine VL.done ?_
    refine VN.then ?_
    refine VC.join3 (fun (v1012 : Value) (l1013 : List ByteArray) (i1014 : Int) => ⟨77, [(2, .int .i64 a2), (3, .pointer (some ⟨g336, 0, none⟩)), (6, .pointer (some ⟨g337, 0, none⟩)), (7, .int .i64 0), (8, v1012), (9, .int .i64 i1014)], [.row v0_0 1 (l0_0.map enc_str), .row v0_1 2 (l0_1.map enc32)], [(g337, 25, [.slice none 0 0, .slice none 0 0]), (g336, 25, [v0_0, v0_1])], [(v1012, 9, 1, l1013.map enc_str)]⟩) (fun (v1012 : Value) (l1013 : List ByteArray) (i1014 : Int) => disk_Crash.j2 k a2 l0_1 l1013 i1014 = some (r1, r2, r3)) ?_ ?_
    · refine VC.seq ?_
      refine VC.region ?_
      refine VL.va (op_fieldAddr FI25_1 rfl (add_at _ _ _) (ltn rfl)) rfl ?_
      refine VL.va (op_load 1 1 rfl rfl TI23 rfl (by decide) (ltn rfl)) rfl ?_
      refine VL.va (op_len (m := l0_1.length) 1 lenm Try.underlying23 rfl rfl (ltn rfl)) rfl ?_
      refine VL.va (op_move rfl (ltn rfl)) rfl ?_
      refine VL.done ?_
      refine VN.then ?_
      refine VC.block ?_
      refine VC.loop4 (fun (v949 : Value) (l950 : List ByteArray) (i951 : Int) (i952 : Int) => ⟨77, [(1, .int .u64 a1), (2, .int .i64 a2), (3, .pointer (some ⟨g336, 0, none⟩)), (6, .pointer (some ⟨g337, 0, none⟩)), (7, .int .i64 0), (8, v949), (9, .int .i64 i951), (22, v0_1), (23, .int .i64 (l0_1.length : Int)), (24, .int .i64 i952)], [.row v0_1 2 (l0_1.map enc32), .row v0_0 1 (l0_0.map enc_str)], [(g337, 25, [.slice none 0 0, .slice none 0 0]), (g336, 25, [v0_0, v0_1])], [(v949, 9, 1, l950.map enc_str)]⟩) (fun (ml3 : Nat) (v949 : Value) (l950 : List ByteArray) (i951 : Int) (i952 : Int) => disk_Crash.l3 k a1 a2 l0_1 ml3 l950 i951 i952 = some (r1, r2, r3)) k v608 r605 (-1) 0 [0, 1] [0] h ⟨rfl, ⟨rfl, rfl, rfl, rfl, rfl, rfl, rfl, rfl, rfl, rfl, trivial⟩, ⟨⟨1, rfl⟩, ⟨0, rfl⟩, trivial⟩, rfl, by decide, rfl, by decide⟩ (by intros; simp [disk_Crash.l3]) ?_
      clear h
      intro ml3 ihl3 v949 l950 i951 i952 h
      simp only [disk_Crash.l3] at h
      refine VC.seq ?_
      refine VC.region ?_
      refine VL.letter (decide (i952 < (l0_1.length : Int))) fun b982 hb982 => ?_
      refine VL.va (op_cmp rfl rfl (congrArg some hb982) (ltn rfl)) rfl ?_
      refine VL.done ?_
      refine VN.then ?_
      refine VC.seq ?_
      by_cases c984 : i952 < (l0_1.length : Int)
      · rw [if_pos c984] at h
        obtain rfl : b982 = true := hb982.symm.trans (decide_eq_true c984)
        refine VC.cond_t rfl ?_
        refine VC.skip ?_
        refine VN.then ?_
        refine VC.seq ?_
        refine VC.block ?_
        refine VC.seq ?_
        refine VC.region ?_
        refine VL.va (op_move rfl (ltn rfl)) rfl ?_
        by_cases c998 : 0 ≤ i952
        · rw [if_pos c998] at h
          replace h := Option.bind_eq_some_iff.1 h
          obtain ⟨x999, hx999, h⟩ := h
          refine VL.open (m := l0_1.length) 0 lenm rfl (pos_get hx999) ?_
          rintro ad1000 n1001 rfl
          refine VL.va (op_indexAddr Try.underlying23 TI33 rfl rfl c998 (lt_get c998 hx999) rfl (ltn rfl)) rfl ?_
          refine VL.va (op_load_row (sz := 2) (o := 0) 0 i952.toNat 2 rfl rfl (get_map hx999) TI33 rfl (fun h => absurd h (by decide)) (ltn rfl)) rfl ?_
          refine VL.sG (o_alloc Z33 ZL33 (ltn rfl)) rfl ?_
          intro g1002
          refine VL.va (op_assign rfl (ltn rfl)) rfl ?_
          refine VL.step1 (o_store 0 2 rfl rfl rfl TI33 (.agg (.of rfl)) rfl (len rfl)) rfl ?_
          refine VL.done ?_
          refine VN.then ?_
          refine VC.seq ?_
          refine VC.region ?_
          refine VL.va (op_move rfl (ltn rfl)) rfl ?_
          refine VL.va (op_move rfl (ltn rfl)) rfl ?_
          refine VL.va (op_shr rfl rfl c998 rfl (ltn rfl)) rfl ?_
          refine VL.va (op_bits rfl rfl rfl (ltn rfl)) rfl ?_
          refine VL.letter (((Go.bits .and .u64 (a1.fdiv (2 ^ min i952.toNat IntKind.u64.bits)) 1) == 1)) fun b1003 hb1003 => ?_
          refine VL.va (op_cmp rfl rfl (congrArg some hb1003) (ltn rfl)) rfl ?_
          refine VL.done ?_
          refine VN.then ?_
          by_cases c1004 : (Go.bits .and .u64 (a1.fdiv (2 ^ min i952.toNat IntKind.u64.bits)) 1) = 1
          · rw [if_pos c1004] at h
            obtain rfl : b1003 = true := hb1003.symm.trans (beq_iff_eq.2 c1004)
            refine VC.cond_t rfl ?_
            refine VC.region ?_
            refine VL.va (op_move rfl (ltn rfl)) rfl ?_
            refine VL.va (op_fieldAddr FI33_0 rfl (add_at _ _ _) (ltn rfl)) rfl ?_
            refine VL.va (op_load 0 1 rfl rfl TI3 rfl (by decide) (ltn rfl)) rfl ?_
            refine VL.va (op_fieldAddr FI33_1 rfl (add_at _ _ _) (ltn rfl)) rfl ?_
            refine VL.va (op_load 0 1 rfl rfl TI9 rfl (by decide) (ltn rfl)) rfl ?_
            by_cases c1005 : 0 ≤ x999.f0
            · rw [if_pos c1005] at h
              replace h := Option.bind_eq_some_iff.1 h
              obtain ⟨x1006, hx1006, h⟩ := h
              refine VL.openR (m := l950.length) 0 lenm rfl (pos_get hx1006) ?_
              rintro g1007 n1008 rfl
              refine VL.va (op_indexAddr Try.underlying22 TI9 rfl rfl c1005 (lt_get c1005 hx1006) (add_zero_at _ _) (ltn rfl)) rfl ?_
              refine VL.step1 (o_store_own (sz := 1) (o := 0) (es3 := List.map enc_str (l950.set x999.f0.toNat x999.f1)) 0 x999.f0.toNat 1 lenm (setm rfl) rfl rfl rfl (get_map hx1006) TI9 (.c rfl) rfl (len rfl)) rfl ?_
              refine VL.done ?_
              refine VN.block ?_
              refine VN.then ?_
              refine VC.region ?_
              refine VL.va (op_ari64 rfl rfl rfl (ltn rfl)) rfl ?_
              refine VL.va (op_move rfl (ltn rfl)) rfl ?_
              refine VL.done ?_
              refine VN.again [1, 2] [0] (ihl3 (.slice (some ⟨g1007, 0, none⟩) l950.length n1008) (l950.set x999.f0.toNat x999.f1) i951 (wrap64 (i952 + 1)) h) ⟨rfl, ⟨rfl, rfl, rfl, rfl, rfl, rfl, rfl, rfl, rfl, rfl, trivial⟩, ⟨⟨0, rfl⟩, ⟨1, rfl⟩, trivial⟩, rfl, by decide, rfl, by decide⟩
            · rw [if_neg c1005] at h; cases h
          · rw [if_neg c1004] at h
            obtain rfl : b1003 = false := hb1003.symm.trans (beq_eq_false_iff_ne.2 c1004)
            refine VC.cond_f rfl ?_
            refine VC.region ?_
            refine VL.va (op_move rfl (ltn rfl)) rfl ?_
            refine VL.va (op_assign rfl (ltn rfl)) rfl ?_
            refine VL.done ?_
            refine VN.block ?_
            refine VN.then ?_
            refine VC.region ?_
            refine VL.va (op_ari64 rfl rfl rfl (ltn rfl)) rfl ?_
            refine VL.va (op_move rfl (ltn rfl)) rfl ?_
            refine VL.done ?_
            refine VN.again [1, 2] [0] (ihl3 v949 l950 i952 (wrap64 (i952 + 1)) h) ⟨rfl, ⟨rfl, rfl, rfl, rfl, rfl, rfl, rfl, rfl, rfl, rfl, trivial⟩, ⟨⟨0, rfl⟩, ⟨1, rfl⟩, trivial⟩, rfl, by decide, rfl, by decide⟩
        · rw [if_neg c998] at h; cases h
      · rw [if_neg c984] at h
        obtain rfl : b982 = false := hb982.symm.trans (decide_eq_false c984)
        refine VC.cond_f rfl ?_
        refine VC.exit ?_
        refine VX.then ?_
        refine VX.then ?_
        refine VX.hit ?_
        refine VN.meet3 v949 l950 i951 [0, 1] [0] h ⟨rfl, ⟨rfl, rfl, rfl, rfl, rfl, rfl, trivial⟩, ⟨⟨1, rfl⟩, ⟨0, rfl⟩, trivial⟩, rfl, by decide, rfl, by decide⟩
    clear h
    intro v1012 l1013 i1014 h
    unfold disk_Crash.j2 at h
    refine VC.seq ?_
    refine VC.seq ?_
    refine VC.region ?_
    refine VL.va (op_move rfl (ltn rfl)) rfl ?_
    refine VL.letter (decide (i1014 ≥ 0)) fun b1050 hb1050 => ?_
    refine VL.va (op_cmp rfl rfl (congrArg some hb1050) (ltn rfl)) rfl ?_
    refine VL.va (op_move rfl (ltn rfl)) rfl ?_
    by_cases c1051 : i1014 ≥ 0
    · rw [if_pos c1051] at h
      obtain rfl : b1050 = true := hb1050.symm.trans (decide_eq_true c1051)
      refine VL.va (op_move rfl (ltn rfl)) rfl ?_
      refine VL.letter (decide (a2 ≥ 1)) fun b1052 hb1052 => ?_
      refine VL.va (op_cmp rfl rfl (congrArg some hb1052) (ltn rfl)) rfl ?_
      refine VL.va (op_pick rfl rfl (ltn rfl)) rfl ?_
      refine VL.va (op_move rfl (ltn rfl)) rfl ?_
      by_cases c1053 : a2 ≥ 1
      · rw [if_pos c1053] at h
        obtain rfl : b1052 = true := hb1052.symm.trans (decide_eq_true c1053)
        refine VL.va (op_move rfl (ltn rfl)) rfl ?_
        refine VL.letter (decide (a2 < 64)) fun b1054 hb1054 => ?_
        refine VL.va (op_cmp rfl rfl (congrArg some hb1054) (ltn rfl)) rfl ?_
        refine VL.va (op_pick rfl rfl (ltn rfl)) rfl ?_
        refine VL.done ?_
        refine VN.then ?_
        by_cases c1055 : a2 < 64
        · rw [if_pos c1055] at h
          obtain rfl : b1054 = true := hb1054.symm.trans (decide_eq_true c1055)
          refine VC.cond_t rfl ?_
          refine VC.seq ?_
          refine VC.region ?_
          refine VL.va (op_fieldAddr FI25_1 rfl (add_at _ _ _) (ltn rfl)) rfl ?_
          refine VL.va (op_load 1 1 rfl rfl TI23 rfl (by decide) (ltn rfl)) rfl ?_
          refine VL.va (op_move rfl (ltn rfl)) rfl ?_
          by_cases c1056 : 0 ≤ i1014
          · rw [if_pos c1056] at h
            replace h := Option.bind_eq_some_iff.1 h
            obtain ⟨x1057, hx1057, h⟩ := h
            refine VL.open (m := l0_1.length) 1 lenm rfl (pos_get hx1057) ?_
            rintro ad1058 n1059 rfl
            refine VL.va (op_indexAddr Try.underlying23 TI33 rfl rfl c1056 (lt_get c1056 hx1057) rfl (ltn rfl)) rfl ?_
            refine VL.va (op_load_row (sz := 2) (o := 0) 1 i1014.toNat 2 rfl rfl (get_map hx1057) TI33 rfl (fun h => absurd h (by decide)) (ltn rfl)) rfl ?_
            refine VL.sG (o_alloc Z33 ZL33 (ltn rfl)) rfl ?_
            intro g1060
            refine VL.step1 (o_store 0 2 rfl rfl rfl TI33 (.agg (.of rfl)) rfl (len rfl)) rfl ?_
            refine VL.done ?_
            refine VN.then ?_
            refine VC.seq ?_
            refine VC.region ?_
            refine VL.va (op_move rfl (ltn rfl)) rfl ?_
            refine VL.va (op_fieldAddr FI33_0 rfl (add_at _ _ _) (ltn rfl)) rfl ?_
            refine VL.va (op_load 0 1 rfl rfl TI3 rfl (by decide) (ltn rfl)) rfl ?_
            by_cases c1061 : 0 ≤ x1057.f0
            · rw [if_pos c1061] at h
              replace h := Option.bind_eq_some_iff.1 h
              obtain ⟨x1062, hx1062, h⟩ := h
              refine VL.openR (m := l1013.length) 0 lenm rfl (pos_get hx1062) ?_
              rintro g1063 n1064 rfl
              refine VL.va (op_indexAddr Try.underlying22 TI9 rfl rfl c1061 (lt_get c1061 hx1062) (add_zero_at _ _) (ltn rfl)) rfl ?_
              refine VL.va (op_load_own (sz := 1) (o := 0) 0 x1057.f0.toNat 1 rfl rfl (get_map hx1062) TI9 rfl (by decide) (ltn rfl)) rfl ?_
              refine o_strBytesB Try.underlying9 Try.underlying48 Try.underlying5 (by rw [hU]) rfl (ltn rfl) rfl fun g1065 n1066 z1067 => ?_
              refine VL.va (op_assign rfl (ltn rfl)) rfl ?_
              refine VL.done ?_
              refine VN.then ?_
              refine VC.seq ?_
              refine VC.region ?_
              refine VL.va (op_move rfl (ltn rfl)) rfl ?_
              refine VL.va (op_fieldAddr FI33_1 rfl (add_at _ _ _) (ltn rfl)) rfl ?_
              refine VL.va (op_load 1 1 rfl rfl TI9 rfl (by decide) (ltn rfl)) rfl ?_
              refine VL.va (op_move rfl (ltn rfl)) rfl ?_
              by_cases c1068 : 0 ≤ a2
              · rw [if_pos c1068] at h
                by_cases c1069 : a2 ≤ (x1057.f1.size : Int)
                · rw [if_pos c1069] at h
                  refine VL.va (op_sliceS 0 a2.toNat Try.underlying9 rfl ⟨rfl, ⟨_, _, rfl, c1068, rfl⟩, by omega, by omega⟩ rfl (ltn rfl)) rfl ?_
                  by_cases c1070 : (byI x1062).length = x1062.size
                  · rw [if_pos c1070] at h
                    refine VL.step1 (o_copyS 0 Try.underlying48 TI5 rfl rfl rfl c1070 rfl (ltn rfl)) rfl ?_
                    refine VL.done ?_
                    refine VN.then ?_
                    refine VC.region ?_
                    refine VL.va (op_move rfl (ltn rfl)) rfl ?_
                    refine VL.va (op_fieldAddr FI33_0 rfl (add_at _ _ _) (ltn rfl)) rfl ?_
                    refine VL.va (op_load 1 1 rfl rfl TI3 rfl (by decide) (ltn rfl)) rfl ?_
                    refine VL.va (op_move rfl (ltn rfl)) rfl ?_
                    by_cases c1071 : ((byI (x1057.f1.extract 0 a2.toNat)).take (min (x1057.f1.extract 0 a2.toNat).size x1062.size) ++ (byI x1062).drop (min (x1057.f1.extract 0 a2.toNat).size x1062.size)).length = x1062.size
                    · rw [if_pos c1071] at h
                      refine VL.va (op_bytesStrB 0 Try.underlying48 Try.underlying9 Try.underlying5 rfl rfl c1071 (ltn rfl)) rfl ?_
                      replace h := Option.bind_eq_some_iff.1 h
                      obtain ⟨x1072, hx1072, h⟩ := h
                      refine VL.va (op_indexAddr Try.underlying22 TI9 rfl rfl c1061 (lt_get c1061 hx1072) (add_zero_at _ _) (ltn rfl)) rfl ?_
                      refine VL.step1 (o_store_own (sz := 1) (o := 0) (es3 := List.map enc_str (l1013.set x1057.f0.toNat (strOfNums ((byI (x1057.f1.extract 0 a2.toNat)).take (min (x1057.f1.extract 0 a2.toNat).size x1062.size) ++ (byI x1062).drop (min (x1057.f1.extract 0 a2.toNat).size x1062.size))))) 0 x1057.f0.toNat 1 lenm (setm rfl) rfl rfl rfl (get_map hx1072) TI9 (.c rfl) rfl (len rfl)) rfl ?_
                      refine VL.done ?_
                      refine VN.then ?_
                      refine VC.seq ?_
                      refine VC.region ?_
                      refine VL.va (op_move rfl (ltn rfl)) rfl ?_
                      refine VL.va (op_build (vals := [(0, (.slice (some ⟨g1063, 0, none⟩) l1013.length n1064))]) (vcs := [(0, [(.slice (some ⟨g1063, 0, none⟩) l1013.length n1064)])]) (cells := [(.slice (some ⟨g1063, 0, none⟩) l1013.length n1064), .slice none 0 0]) SI25 rfl (.cons ⟨rfl, (.r 0 rfl)⟩ .nil) (by kernel_rfl) (ltn rfl)) rfl ?_
                      refine VL.step1 (o_store 2 2 rfl rfl rfl TI25 (.agg (.r 0 rfl (.c rfl .nil))) rfl (len rfl)) rfl ?_
                      refine VL.va (op_assign rfl (ltn rfl)) rfl ?_
                      refine VL.done ?_
                      refine VN.then ?_
                      refine VC.ret ?_
                      simp only [Option.some.injEq, Prod.mk.injEq] at h
                      obtain ⟨rfl, rfl, rfl⟩ := h
                      refine VR.nilRow' 33 2 ?_
                      exact VR.fn (rs := [.cell 6 25, .tmp 7]) [] [((.slice (some ⟨g1063, 0, none⟩) l1013.length n1064), 9, 1, (l1013.set x1057.f0.toNat (strOfNums ((byI (x1057.f1.extract 0 a2.toNat)).take (min (x1057.f1.extract 0 a2.toNat).size x1062.size) ++ (byI x1062).drop (min (x1057.f1.extract 0 a2.toNat).size x1062.size)))).map enc_str), ((.slice none 0 0), 33, 2, ([] : List S32).map enc32)] [1, 0] rfl (.cell 2 rfl rfl TI25 (fun h => absurd h (by decide)) (.tmp rfl .nil)) ⟨(.slice (some ⟨g1063, 0, none⟩) l1013.length n1064), (.slice none 0 0), rfl, rfl, rfl⟩ trivial rfl (by decide)
                    · rw [if_neg c1071] at h; cases h
                  · rw [if_neg c1070] at h; cases h
                · rw [if_neg c1069] at h; cases h
              · rw [if_neg c1068] at h; cases h
            · rw [if_neg c1061] at h; cases h
          · rw [if_neg c1056] at h; cases h
        · rw [if_neg c1055] at h
          obtain rfl : b1054 = false := hb1054.symm.trans (decide_eq_false c1055)
          refine VC.cond_f rfl ?_
          refine VC.skip ?_
          refine VN.then ?_
          refine VC.seq ?_
          refine VC.region ?_
          refine VL.va (op_move rfl (ltn rfl)) rfl ?_
          refine VL.va (op_build (vals := [(0, v1012)]) (vcs := [(0, [v1012])]) (cells := [v1012, .slice none 0 0]) SI25 rfl (.cons ⟨rfl, (.r 0 rfl)⟩ .nil) (by kernel_rfl) (ltn rfl)) rfl ?_
          refine VL.step1 (o_store 0 2 rfl rfl rfl TI25 (.agg (.r 0 rfl (.c rfl .nil))) rfl (len rfl)) rfl ?_
          refine VL.va (op_assign rfl (ltn rfl)) rfl ?_
          refine VL.done ?_
          refine VN.then ?_
          refine VC.ret ?_
          simp only [Option.some.injEq, Prod.mk.injEq] at h
          obtain ⟨rfl, rfl, rfl⟩ := h
          refine VR.nilRow' 33 2 ?_
          exact VR.fn (rs := [.cell 6 25, .tmp 7]) [] [(v1012, 9, 1, l1013.map enc_str), ((.slice none 0 0), 33, 2, ([] : List S32).map enc32)] [1, 0] rfl (.cell 0 rfl rfl TI25 (fun h => absurd h (by decide)) (.tmp rfl .nil)) ⟨v1012, (.slice none 0 0), rfl, rfl, rfl⟩ trivial rfl (by decide)
      · rw [if_neg c1053] at h
        obtain rfl : b1052 = false := hb1052.symm.trans (decide_eq_false c1053)
        refine VL.un rfl rfl (ltn rfl) ?_
        refine VL.un rfl rfl (ltn rfl) ?_
        refine VL.va (op_pick rfl rfl (ltn rfl)) rfl ?_
        refine VL.done ?_
        refine VN.then ?_
        refine VC.cond_f rfl ?_
        refine VC.skip ?_
        refine VN.then ?_
        refine VC.seq ?_
        refine VC.region ?_
        refine VL.va (op_move rfl (ltn rfl)) rfl ?_
        refine VL.va (op_build (vals := [(0, v1012)]) (vcs := [(0, [v1012])]) (cells := [v1012, .slice none 0 0]) SI25 rfl (.cons ⟨rfl, (.r 0 rfl)⟩ .nil) (by kernel_rfl) (ltn rfl)) rfl ?_
        refine VL.step1 (o_store 0 2 rfl rfl rfl TI25 (.agg (.r 0 rfl (.c rfl .nil))) rfl (len rfl)) rfl ?_
        refine VL.va (op_assign rfl (ltn rfl)) rfl ?_
        refine VL.done ?_
        refine VN.then ?_
        refine VC.ret ?_
        simp only [Option.some.injEq, Prod.mk.injEq] at h
        obtain ⟨rfl, rfl, rfl⟩ := h
        refine VR.nilRow' 33 2 ?_
        exact VR.fn (rs := [.cell 6 25, .tmp 7]) [] [(v1012, 9, 1, l1013.map enc_str), ((.slice none 0 0), 33, 2, ([] : List S32).map enc32)] [1, 0] rfl (.cell 0 rfl rfl TI25 (fun h => absurd h (by decide)) (.tmp rfl .nil)) ⟨v1012, (.slice none 0 0), rfl, rfl, rfl⟩ trivial rfl (by decide)
    · rw [if_neg c1051] at h
      obtain rfl : b1050 = false := hb1050.symm.trans (decide_eq_false c1051)
      refine VL.un rfl rfl (ltn rfl) ?_
      refine VL.un rfl rfl (ltn rfl) ?_
      refine VL.va (op_pick rfl rfl (ltn rfl)) rfl ?_
      refine VL.va (op_move rfl (ltn rfl)) rfl ?_
      refine VL.un rfl rfl (ltn rfl) ?_
      refine VL.un rfl rfl (ltn rfl) ?_
      refine VL.va (op_pick rfl rfl (ltn rfl)) rfl ?_
      refine VL.done ?_
      refine VN.then ?_
      refine VC.cond_f rfl ?_
      refine VC.skip ?_
      refine VN.then ?_
      refine VC.seq ?_
      refine VC.region ?_
      refine VL.va (op_move rfl (ltn rfl)) rfl ?_
      refine VL.va (op_build (vals := [(0, v1012)]) (vcs := [(0, [v1012])]) (cells := [v1012, .slice none 0 0]) SI25 rfl (.cons ⟨rfl, (.r 0 rfl)⟩ .nil) (by kernel_rfl) (ltn rfl)) rfl ?_
      refine VL.step1 (o_store 0 2 rfl rfl rfl TI25 (.agg (.r 0 rfl (.c rfl .nil))) rfl (len rfl)) rfl ?_
      refine VL.va (op_assign rfl (ltn rfl)) rfl ?_
      refine VL.done ?_
      refine VN.then ?_
      refine VC.ret ?_
      simp only [Option.some.injEq, Prod.mk.injEq] at h
      obtain ⟨rfl, rfl, rfl⟩ := h
      refine VR.nilRow' 33 2 ?_
      exact VR.fn (rs := [.cell 6 25, .tmp 7]) [] [(v1012, 9, 1, l1013.map enc_str), ((.slice none 0 0), 33, 2, ([] : List S32).map enc32)] [1, 0] rfl (.cell 0 rfl rfl TI25 (fun h => absurd h (by decide)) (.tmp rfl .nil)) ⟨v1012, (.slice none 0 0), rfl, rfl, rfl⟩ trivial rfl (by decide)
  · rw [if_neg c604] at h
    obtain rfl := Bool.eq_false_iff.2 c604
    refine VL.va (op_not rfl rfl (ltn rfl)) rfl ?_
    refine VL.done ?_
    refine VN.then ?_
    refine VC.cond_t rfl ?_
    refine VC.seq ?_
    refine VC.region ?_
    refine VL.va (op_build (vals := []) (vcs := []) (cells := [.slice none 0 0, .slice none 0 0]) SI25 rfl .nil (by kernel_rfl) (ltn rfl)) rfl ?_
    refine VL.step1 (o_store 0 2 rfl rfl rfl TI25 (.agg (.of rfl)) rfl (len rfl)) rfl ?_
    refine VL.va (op_assign rfl (ltn rfl)) rfl ?_
    refine VL.done ?_
    refine VN.then ?_
    refine VC.ret ?_
    refine VR.then ?_
    simp only [Option.some.injEq, Prod.mk.injEq] at h
    obtain ⟨rfl, rfl, rfl⟩ := h
    refine VR.nilRow' 9 1 ?_
    refine VR.nilRow' 33 2 ?_
    exact VR.fn (rs := [.cell 6 25, .tmp 7]) [] [((.slice none 0 0), 9, 1, ([] : List ByteArray).map enc_str), ((.slice none 0 0), 33, 2, ([] : List S32).map enc32)] [1, 0] rfl (.cell 0 rfl rfl TI25 (fun h => absurd h (by decide)) (.tmp rfl .nil)) ⟨(.slice none 0 0), (.slice none 0 0), rfl, rfl, rfl⟩ trivial rfl (by decide)
def lay_14_ren : Go.Shelf.Ren := ⟨fun | 105 => 14 | 212 => 23 | 99 => 24 | 165 => 25 | 166 => 26 | 170 => 27 | 169 => 28 | 263 => 36 | 264 => 37 | 206 => 38 | 240 => 39 | 241 => 40 | 276 => 43 | 277 => 44 | n => n, fun | 9 => 9 | 3 => 3 | 4 => 4 | 20 => 20 | 0 => 0 | 46 => 54 | 109 => 55 | 5 => 5 | 72 => 60 | 76 => 64 | 51 => 75 | 146 => 76 | 53 => 26 | 148 => 78 | 70 => 58 | 37 => 48 | 75 => 63 | 127 => 80 | 164 => 83 | 80 => 67 | n => n, fun | n => n⟩
theorem lay_14 : Go.Proofs.Lays.n105 Try.prog lay_14_ren where
  mixed := by kernel_rfl
  f99 := Try.func24.trans (congrArg some (by kernel_rfl))
  f105 := Try.func14.trans (congrArg some (by kernel_rfl))
  f165 := Try.func25.trans (congrArg some (by kernel_rfl))
  f166 := Try.func26.trans (congrArg some (by kernel_rfl))
  f169 := Try.func28.trans (congrArg some (by kernel_rfl))
  f170 := Try.func27.trans (congrArg some (by kernel_rfl))
  f206 := Try.func38.trans (congrArg some (by kernel_rfl))
  f212 := Try.func23.trans (congrArg some (by kernel_rfl))
  f240 := Try.func39.trans (congrArg some (by kernel_rfl))
  f241 := Try.func40.trans (congrArg some (by kernel_rfl))
  f263 := Try.func36.trans (congrArg some (by kernel_rfl))
  f264 := Try.func37.trans (congrArg some (by kernel_rfl))
  f276 := Try.func43.trans (congrArg some (by kernel_rfl))
  f277 := Try.func44.trans (congrArg some (by kernel_rfl))
  t0 := Try.underlying0
  a0 := Try.isAgg0
  z0 := Try.sizeOf0
  v0 := Try.zeroValue0
  t3 := Try.underlying3
  a3 := Try.isAgg3
  z3 := Try.sizeOf3
  v3 := Try.zeroValue3
  t4 := Try.underlying4
  a4 := Try.isAgg4
  z4 := Try.sizeOf4
  v4 := Try.zeroValue4
  t5 := Try.underlying5
  a5 := Try.isAgg5
  z5 := Try.sizeOf5
  v5 := Try.zeroValue5
  t9 := Try.underlying9
  a9 := Try.isAgg9
  z9 := Try.sizeOf9
  v9 := Try.zeroValue9
  t20 := Try.underlying20
  a20 := Try.isAgg20
  z20 := Try.sizeOf20
  v20 := Try.zeroValue20
  t37 := Try.underlying48
  a37 := Try.isAgg48
  z37 := Try.sizeOf48
  v37 := Try.zeroValue48
  t46 := Try.underlying54
  a46 := Try.isAgg54
  z46 := Try.sizeOf54
  v46 := Try.zeroValue54
  t51 := Try.underlying75
  a51 := Try.isAgg75
  z51 := Try.sizeOf75
  v51 := Try.zeroValue75
  t53 := Try.underlying26
  a53 := Try.isAgg26
  z53 := Try.sizeOf26
  v53 := Try.zeroValue26
  t70 := Try.underlying58
  a70 := Try.isAgg58
  z70 := Try.sizeOf58
  v70 := Try.zeroValue58
  t72 := Try.underlying60
  a72 := Try.isAgg60
  z72 := Try.sizeOf60
  v72 := Try.zeroValue60
  t75 := Try.underlying63
  a75 := Try.isAgg63
  z75 := Try.sizeOf63
  v75 := Try.zeroValue63
  t76 := Try.underlying64
  a76 := Try.isAgg64
  z76 := Try.sizeOf64
  v76 := Try.zeroValue64
  t109 := Try.underlying55
  a109 := Try.isAgg55
  z109 := Try.sizeOf55
  v109 := Try.zeroValue55
  t127 := Try.underlying80
  a127 := Try.isAgg80
  z127 := Try.sizeOf80
  v127 := Try.zeroValue80
  t146 := Try.underlying76
  a146 := Try.isAgg76
  z146 := Try.sizeOf76
  v146 := Try.zeroValue76
  t148 := Try.underlying78
  a148 := Try.isAgg78
  z148 := Try.sizeOf78
  v148 := Try.zeroValue78
  t164 := Try.underlying83
  a164 := Try.isAgg83
  z164 := Try.sizeOf83
  v164 := Try.zeroValue83
theorem lay_14x : Go.Proofs.Builder.Extra Try.prog lay_14_ren where
  sizeBuilder := by kernel_rfl
  liesBuilder := by kernel_rfl
  t5 := lay_14.t5
  a5 := lay_14.a5
  z5 := lay_14.z5
  v5 := lay_14.v5
  infoByte := by kernel_rfl
  cellsByte := by kernel_rfl
  sizeByte := by kernel_rfl
  neB5 := by decide

theorem strings_Repeat.ok (s : ByteArray) (c : Int) (r1 : ByteArray) (h : strings_Repeat.f s c = some r1) :
    VCalls Try.prog 14 [.string s, .int .i64 c] [] (fun v G own => v = .string r1 ∧ G = [] ∧ own = []) := by
  unfold strings_Repeat.f at h
  by_cases hc : ¬ (0 ≤ c ∧ c ≤ 9223372036854775807 ∧ s.size * c.toNat ≤ 140737488355328)
  · rw [if_neg hc] at h; cases h
  replace hc := Decidable.not_not.1 hc
  rw [if_pos hc] at h
  obtain rfl := Option.some.inj h
  obtain ⟨n, rfl⟩ : ∃ n : Nat, c = (n : Int) := ⟨c.toNat, by omega⟩
  exact VCalls.of fun w => Go.Proofs.Any.strings_Repeat lay_14 lay_14x s n w (by omega) (by simpa using hc.2.2)
def lay_23_ren : Go.Shelf.Ren := ⟨fun | 212 => 23 | 263 => 36 | 264 => 37 | n => n, fun | 46 => 54 | 51 => 75 | 146 => 76 | 53 => 26 | 148 => 78 | n => n, fun | n => n⟩
theorem lay_23 : Go.Proofs.Lays.n212 Try.prog lay_23_ren where
  mixed := by kernel_rfl
  f212 := Try.func23.trans (congrArg some (by kernel_rfl))
  f263 := Try.func36.trans (congrArg some (by kernel_rfl))
  f264 := Try.func37.trans (congrArg some (by kernel_rfl))
  t46 := Try.underlying54
  a46 := Try.isAgg54
  z46 := Try.sizeOf54
  v46 := Try.zeroValue54
  t51 := Try.underlying75
  a51 := Try.isAgg75
  z51 := Try.sizeOf75
  v51 := Try.zeroValue75
  t53 := Try.underlying26
  a53 := Try.isAgg26
  z53 := Try.sizeOf26
  v53 := Try.zeroValue26
  t146 := Try.underlying76
  a146 := Try.isAgg76
  z146 := Try.sizeOf76
  v146 := Try.zeroValue76
  t148 := Try.underlying78
  a148 := Try.isAgg78
  z148 := Try.sizeOf78
  v148 := Try.zeroValue78
theorem slices_Repeat_string_string.mul (x y : Nat) (hx : x * y < 18446744073709551616) (hx1 : x < 18446744073709551616) (hy : y < 18446744073709551616) : VCalls Try.prog 23 [.int .u64 x, .int .u64 y] [] (fun v G own => v = .tuple [.int .u64 0, .int .u64 ((x * y : Nat) : Int)].toArray ∧ G = [] ∧ own = []) := by
  refine VCalls.of fun w => (Go.Proofs.Any.bits_Mul lay_23 x y hx1 hy w).mono ?_
  rintro e w' ⟨he, hw⟩
  rw [Nat.div_eq_of_lt hx, Nat.mod_eq_of_lt hx] at he
  exact ⟨he, hw ▸ Below.refl _ _⟩
set_option maxHeartbeats 4000000 in
set_option maxRecDepth 100000 in
theorem slices_Repeat_string_string.ok (l0 : List ByteArray) (a1 : Int) (v0 : Value) (r1 : List ByteArray) (h : slices_Repeat_string_string.f l0 a1 = some r1) :
    VCalls Try.prog 20 [v0, .int .i64 a1] [.row v0 1 (l0.map enc_str)] (fun v G own => ∃ w0 : Value, v = w0 ∧ G = [] ∧ own = [(w0, 9, 1, r1.map enc_str)]) := by
  unfold slices_Repeat_string_string.f at h
  by_cases hc : ¬ (0 < l0.length ∧ 0 < a1 ∧ l0.length * a1.toNat * 16 ≤ 140737488355328)
  · rw [if_neg hc] at h; cases h
  replace hc := Decidable.not_not.1 hc
  rw [if_pos hc] at h
  obtain rfl := Option.some.inj h
  clear h
  obtain ⟨hl0, ha1, hbig⟩ := hc
  obtain ⟨n, rfl⟩ : ∃ n : Nat, a1 = (n : Int) := ⟨a1.toNat, by omega⟩
  have hn0 : 0 < n := by omega
  clear ha1
  simp only [Int.toNat_natCast] at hbig ⊢
  obtain ⟨N, hN⟩ : ∃ N, l0.length * n = N := ⟨_, rfl⟩
  have hNp : 0 < N := by rw [← hN]; exact Nat.mul_pos hl0 hn0
  have hpN : l0.length ≤ N := by rw [← hN]; exact Nat.le_mul_of_pos_right _ hn0
  have hnN : n ≤ N := by rw [← hN]; exact Nat.le_mul_of_pos_left _ hl0
  rw [hN] at hbig
  have hNs : N ≤ 140737488355328 := by omega
  have hRl : (repl l0 n).length = N := by rw [repl_len, hN]
  have hRf : flatOk 1 ((repl l0 n).map enc_str) := flat_map enc_str_ok _
  have hLf : flatOk 1 (l0.map enc_str) := flat_map enc_str_ok _
  have hsh : ∀ j m, l0.length ∣ j → j + m ≤ N → (((repl l0 n).map enc_str).flatten.drop (j * 1)).take (m * 1) = ((repl l0 n).map enc_str).flatten.take (m * 1) := by
    rintro j m ⟨q, rfl⟩ hjm
    have hq : q ≤ n := by
      rcases Nat.lt_or_ge n q with h | h
      · have := Nat.mul_lt_mul_of_pos_left h hl0
        omega
      · exact h
    have e := repl_shift l0 n q hq
    rw [← flat_drop _ hRf, ← List.map_drop, e, List.map_take, flat_take _ hRf, List.take_take, Nat.min_eq_left (Nat.mul_le_mul_right _ (by omega))]
  have hRF : ((repl l0 n).map enc_str).flatten.length = N * 1 := by rw [flat_len hRf, lenm, hRl]
  have hR1 : ((repl l0 n).map enc_str).flatten.take (l0.length * 1) = (l0.map enc_str).flatten := by
    obtain ⟨k, rfl⟩ : ∃ k, n = k + 1 := ⟨n - 1, by omega⟩
    rw [repl, List.map_append, List.flatten_append, ← lenm (f := enc_str) (xs := l0), ← flat_len hLf, List.take_left]
  have hone : ∀ k, ∀ u ∈ ((repl l0 n).map enc_str).flatten.take k, u.oneCell' = true := fun k u hu => flat_one hRf u (List.mem_of_mem_take hu)
  generalize hRR : ((repl l0 n).map enc_str).flatten = R at *
  refine VCalls.intro Try.func20 rfl (len rfl) fun E hC hW hD hU => ?_
  refine VC.formF 0 rfl fun A cap hv h1 h2 h3 => ?_
  rw [lenm] at hv h1 h3
  subst hv
  cases A with
  | none => exact absurd (h3 rfl) (by omega)
  | some ad =>
  clear h3
  refine VC.seq (VC.region ?_)
  refine VL.va (op_assign rfl (ltn rfl)) rfl ?_
  refine VL.done (VN.then ?_)
  refine VC.seq ?_
  refine VC.seq (VC.region ?_)
  refine VL.va (op_move rfl (ltn rfl)) rfl ?_
  refine VL.letter (decide ((n : Int) < 0)) fun b1 hb1 => ?_
  refine VL.va (op_cmp rfl rfl (congrArg some hb1) (ltn rfl)) rfl ?_
  refine VL.done (VN.then ?_)
  obtain rfl : b1 = false := hb1.symm.trans (decide_eq_false (by omega))
  clear hb1
  refine VC.cond_f rfl (VC.skip (VN.then ?_))
  refine VC.seq (VC.region ?_)
  refine VL.va (op_move rfl (ltn rfl)) rfl ?_
  refine VL.va (op_len (m := l0.length) 0 lenm Try.underlying22 rfl rfl (ltn rfl)) rfl ?_
  refine VL.va (op_conv (q := (l0.length : Int)) Try.underlying3 Try.underlying54 rfl (by rw [IntKind.wrap_u64]; omega) (ltn rfl)) rfl ?_
  refine VL.va (op_move rfl (ltn rfl)) rfl ?_
  refine VL.va (op_conv (q := (n : Int)) Try.underlying3 Try.underlying54 rfl (by rw [IntKind.wrap_u64]; omega) (ltn rfl)) rfl ?_
  refine VL.sC (o_call0 FO23 (slices_Repeat_string_string.mul l0.length n (by rw [hN]; omega) (by omega) (by omega)) rfl rfl (ltn rfl) (All_of .nil)) rfl ?_
  rintro _ _ _ ⟨rfl, rfl, rfl⟩
  rw [hN]
  refine VL.va (op_move rfl (ltn rfl)) rfl ?_
  refine VL.va (op_extract rfl rfl (ltn rfl)) rfl ?_
  refine VL.va (op_extract rfl rfl (ltn rfl)) rfl ?_
  refine VL.va (op_assign rfl (ltn rfl)) rfl ?_
  refine VL.va (op_assign rfl (ltn rfl)) rfl ?_
  refine VL.done (VN.then ?_)
  refine VC.seq ?_
  refine VC.seq (VC.region ?_)
  refine VL.va (op_move rfl (ltn rfl)) rfl ?_
  refine VL.va (op_cmp (b := false) rfl rfl rfl (ltn rfl)) rfl ?_
  refine VL.va (op_move rfl (ltn rfl)) rfl ?_
  refine VL.va (op_move rfl (ltn rfl)) rfl ?_
  refine VL.letter (decide ((N : Int) > 9223372036854775807)) fun b2 hb2 => ?_
  refine VL.va (op_cmp rfl rfl (congrArg some hb2) (ltn rfl)) rfl ?_
  refine VL.va (op_pick rfl rfl (ltn rfl)) rfl ?_
  refine VL.done (VN.then ?_)
  obtain rfl : b2 = false := hb2.symm.trans (decide_eq_false (by omega))
  clear hb2
  refine VC.cond_f rfl (VC.skip (VN.then ?_))
  refine VC.seq (VC.region ?_)
  refine VL.va (op_move rfl (ltn rfl)) rfl ?_
  refine VL.va (op_conv (q := (N : Int)) Try.underlying54 Try.underlying3 rfl (by rw [IntKind.wrap_i64]; omega) (ltn rfl)) rfl ?_
  refine o_makeSlice Try.underlying22 EI9 rfl rfl hbig (ltn rfl) rfl fun g cur hcur => ?_
  refine VL.va (op_assign rfl (ltn rfl)) rfl ?_
  refine VL.done (VN.then ?_)
  refine VC.seq (VC.region ?_)
  refine VL.va (op_move rfl (ltn rfl)) rfl ?_
  refine VL.va (op_move rfl (ltn rfl)) rfl ?_
  have hLl : (l0.map enc_str).flatten.length = l0.length * 1 := by rw [flat_len hLf, lenm]
  refine VL.step1 (o_copy (m := l0.length) (cs := (l0.map enc_str).flatten) 0 Try.underlying22 TI9 rfl rfl rfl (Nat.min_eq_left hpN) hLl (by rw [hLl, hcur, Nat.zero_add]; exact Nat.mul_le_mul_right _ hpN) (src_row 0 rfl) (flat_one hLf) rfl (ltn rfl)) rfl ?_
  refine VL.va (op_assign rfl (ltn rfl)) rfl ?_
  refine VL.done (VN.then ?_)
  have hc1 : (upd cur 0 (l0.map enc_str).flatten).length = N * 1 := by rw [upd_len, hcur]; rw [hLl, hcur, Nat.zero_add]; exact Nat.mul_le_mul_right _ hpN
  have hc2 : (upd cur 0 (l0.map enc_str).flatten).take (l0.length * 1) = R.take (l0.length * 1) := by
    rw [hR1, upd, List.take_zero, List.nil_append, ← hLl, List.take_left]
  generalize upd cur 0 (l0.map enc_str).flatten = cur1 at hc1 hc2 ⊢
  clear hcur
  refine VC.seq (VC.block ?_)
  refine VC.loop2 (fun (j : Nat) (cs : List Value) => ⟨48, [(7, .slice (some ⟨g, 0, none⟩) N N), (8, .int .i64 j)], [.row (.slice (some ad) l0.length cap) 1 (l0.map enc_str)], [(g, 9, cs)], []⟩)
    (fun k j cs => N < k + j ∧ 0 < j ∧ j ≤ N ∧ cs.length = N * 1 ∧ cs.take (j * 1) = R.take (j * 1) ∧ (l0.length ∣ j ∨ j = N))
    (N + 1) l0.length cur1 [0] [] ⟨by omega, hl0, hpN, hc1, hc2, .inl (Nat.dvd_refl _)⟩ ⟨rfl, ⟨rfl, rfl, trivial⟩, SubF.of (fun _ h => h), rfl, by decide, rfl, by decide⟩ (by rintro j cs ⟨h, _, h2, _⟩; omega) ?_
  clear hc1 hc2 cur1
  rintro k ih j cs ⟨hk, hj0, hjN, hcl, hct, hdv⟩
  refine VC.seq ?_
  refine VC.seq (VC.region ?_)
  refine VL.va (op_move rfl (ltn rfl)) rfl ?_
  refine VL.va (op_move rfl (ltn rfl)) rfl ?_
  refine VL.va (op_lenV Try.underlying22 rfl (ltn rfl)) rfl ?_
  refine VL.letter (decide ((j : Int) < (N : Int))) fun b3 hb3 => ?_
  refine VL.va (op_cmp rfl rfl (congrArg some hb3) (ltn rfl)) rfl ?_
  refine VL.done (VN.then ?_)
  by_cases c3 : j < N
  · obtain rfl : b3 = true := hb3.symm.trans (decide_eq_true (by omega))
    clear hb3
    refine VC.cond_t rfl (VC.skip (VN.then ?_))
    have hdv2 := hdv.resolve_right (by omega)
    obtain ⟨m, hm⟩ : ∃ m, min j (N - j) = m := ⟨_, rfl⟩
    have hm1 : m ≤ j := by omega
    have hm2 : m ≤ N - j := by omega
    have hm0 : 0 < m := by omega
    have hjm : j * 1 + m * 1 ≤ N * 1 := by rw [← Nat.add_mul]; exact Nat.mul_le_mul_right _ (by omega)
    have hmj : m * 1 ≤ j * 1 := Nat.mul_le_mul_right _ hm1
    have hcs : (cs.drop 0).take (m * 1) = R.take (m * 1) := by
      have := congrArg (List.take (m * 1)) hct
      rw [List.take_take, List.take_take, Nat.min_eq_left hmj] at this
      rw [List.drop_zero]
      exact this
    have hcsl : (R.take (m * 1)).length = m * 1 := by rw [List.length_take, hRF]; omega
    refine VC.block ?_
    refine VC.draw ⟨0, [], [], [], []⟩ (by kernel_rfl) rfl (by kernel_rfl) (n := 10) (listed := LB 10 0) ?_
    refine VA.va (i := 0) (listed' := LB 10 1) rfl (op_move rfl (ltn rfl)) rfl (by kernel_rfl) (by kernel_rfl) (by kernel_rfl) (by kernel_rfl) ⟨trivial, trivial, trivial⟩ (fun _ _ _ h => h) ?_
    refine VA.va (i := 1) (listed' := LB 10 3) rfl (op_move rfl (ltn rfl)) rfl (by kernel_rfl) (by kernel_rfl) (by kernel_rfl) (by kernel_rfl) ⟨trivial, trivial, trivial⟩ (fun _ _ _ h => h) ?_
    refine VA.va (i := 2) (listed' := LB 10 7) rfl (op_move rfl (ltn rfl)) rfl (by kernel_rfl) (by kernel_rfl) (by kernel_rfl) (by kernel_rfl) ⟨trivial, trivial, trivial⟩ (fun _ _ _ h => h) ?_
    refine VA.va (i := 3) (listed' := LB 10 15) rfl (op_cutV' j N (cutV_at0 (.inl c3)) Try.underlying22 TI9 rfl ⟨⟨_, _, rfl, Int.natCast_nonneg j, Int.toNat_natCast _⟩, rfl, by omega, Nat.le_refl _⟩ (Nat.le_refl _) (ltn rfl)) rfl (by kernel_rfl) (by kernel_rfl) (by kernel_rfl) (by kernel_rfl) ⟨trivial, trivial, trivial⟩ (fun _ _ _ h => h) ?_
    refine VA.va (i := 4) (listed' := LB 10 31) rfl (op_move rfl (ltn rfl)) rfl (by kernel_rfl) (by kernel_rfl) (by kernel_rfl) (by kernel_rfl) ⟨trivial, trivial, trivial⟩ (fun _ _ _ h => h) ?_
    refine VA.va (i := 5) (listed' := LB 10 63) rfl (op_move rfl (ltn rfl)) rfl (by kernel_rfl) (by kernel_rfl) (by kernel_rfl) (by kernel_rfl) ⟨trivial, trivial, trivial⟩ (fun _ _ _ h => h) ?_
    refine VA.va (i := 6) (listed' := LB 10 127) rfl (op_cutH' 0 j (v := .slice (some ⟨g, 0, none⟩) j N) (by rw [cutV_at0 (.inr rfl)]; simp) Try.underlying22 TI9 rfl ⟨rfl, ⟨_, _, rfl, Int.natCast_nonneg j, Int.toNat_natCast j⟩, Nat.zero_le _, by omega⟩ (ltn rfl)) rfl (by kernel_rfl) (by kernel_rfl) (by kernel_rfl) (by kernel_rfl) ⟨trivial, trivial, trivial⟩ (fun _ _ _ h => h) ?_
    refine VA.one1 (i := 7) (listed' := LB 10 255) (by kernel_rfl) rfl (o_copy (m := m) (cs := R.take (m * 1)) 0 Try.underlying22 TI9 rfl rfl rfl hm hcsl (by rw [hcsl, hcl]; exact hjm) (src_box (m * 1) 0 rfl hcs.symm) (hone _) rfl (ltn rfl)) rfl (by kernel_rfl) ⟨trivial, trivial, trivial⟩ ?_
    refine VA.va (i := 8) (listed' := LB 10 511) rfl (op_ari64 (q := ((j + m : Nat) : Int)) rfl rfl (congrArg some (by show wrap64 ((j : Int) + (m : Int)) = _; exact w64 (by omega) (by omega))) (ltn rfl)) rfl (by kernel_rfl) (by kernel_rfl) (by kernel_rfl) (by kernel_rfl) ⟨trivial, trivial, trivial⟩ (fun _ _ _ h => h) ?_
    refine VA.va (i := 9) (listed' := LB 10 1023) rfl (op_assign rfl (ltn rfl)) rfl (by kernel_rfl) (by kernel_rfl) (by kernel_rfl) (by kernel_rfl) ⟨trivial, trivial, trivial⟩ (fun _ _ _ h => h) ?_
    refine VA.done (by kernel_rfl) (VN.block ?_)
    refine VN.again [0] [] (ih (j + m) (upd cs (j * 1) (R.take (m * 1))) ⟨by omega, by omega, by omega, ?_, ?_, ?_⟩) ⟨rfl, ⟨rfl, rfl, trivial⟩, SubF.of (fun _ h => h), rfl, by decide, rfl, by decide⟩
    · rw [upd_len, hcl]
      rw [hcsl, hcl]
      exact hjm
    · have h1 : (R.take (j * 1)).length = j * 1 := by rw [List.length_take, hRF]; omega
      have h2 : (R.take (j * 1) ++ R.take (m * 1)).length = (j + m) * 1 := by rw [List.length_append, h1, hcsl, Nat.add_mul]
      unfold upd
      rw [hct, ← h2, List.take_left, h2, Nat.add_mul, List.take_add, hsh j m hdv2 (by omega)]
    · rcases Nat.lt_or_ge (N - j) j with h | h
      · exact .inr (by omega)
      · have : m = j := by omega
        subst this
        exact .inl (by obtain ⟨q, hq⟩ := hdv2; exact ⟨q + q, by rw [Nat.mul_add, ← hq]⟩)
  obtain rfl : b3 = false := hb3.symm.trans (decide_eq_false (by omega))
  clear hb3
  obtain rfl : j = N := by omega
  refine VC.cond_f rfl ?_
  refine VC.exit (VX.then (VX.then (VX.hit (VN.then ?_))))
  refine VC.seq (VC.region ?_)
  refine VL.va (op_move rfl (ltn rfl)) rfl ?_
  refine VL.va (op_assign rfl (ltn rfl)) rfl ?_
  refine VL.done (VN.then ?_)
  refine VC.ret ?_
  refine VR.closeBox 0 j 1 ((repl l0 n).map enc_str) rfl (by rw [lenm, hRl]; exact Nat.le_refl _) (by simp only [maxLen]; omega) hcl ?_ hRf ?_
  · rw [lenm, hRl, hct, hRR, ← hRF, List.take_length]
  rw [lenm, hRl]
  exact VR.fn (rs := [.tmp 4]) [] [(.slice (some ⟨g, 0, none⟩) j j, 9, 1, (repl l0 n).map enc_str)] [0] rfl (.tmp rfl .nil) ⟨_, rfl, rfl, rfl⟩ trivial rfl (by decide)
set_option maxHeartbeats 4000000 in
set_option maxRecDepth 100000 in
theorem disk_New.ok (a0 : Int)  (r1 : List ByteArray) (r2 : List S32) (r3 : Int) (h : disk_New.f a0 = some (r1, r2, r3)) :
    VCalls Try.prog 9 [.int .i64 a0] [] (fun v G own => ∃ w0 w1 : Value, v = .tuple #[.agg #[w0, w1], .int .i64 r3] ∧ G = [] ∧ own = [(w0, 9, 1, r1.map enc_str), (w1, 33, 2, r2.map enc32)]) := by
  refine VCalls.intro Try.func9 rfl (len rfl) fun E hC hW hD hU => ?_
  unfold disk_New.f at h
  refine VC.seq ?_
  refine VC.region ?_
  refine VL.sG (o_alloc Z25 ZL25 (ltn rfl)) rfl ?_
  intro g1092
  refine VL.va (op_assign rfl (ltn rfl)) rfl ?_
  refine VL.done ?_
  refine VN.then ?_
  refine VC.seq ?_
  refine VC.seq ?_
  refine VC.region ?_
  refine VL.va (op_move rfl (ltn rfl)) rfl ?_
  refine VL.letter (decide (a0 < 1)) fun b1107 hb1107 => ?_
  refine VL.va (op_cmp rfl rfl (congrArg some hb1107) (ltn rfl)) rfl ?_
  refine VL.va (op_move rfl (ltn rfl)) rfl ?_
  by_cases c1108 : a0 < 1
  · rw [if_pos c1108] at h
    obtain rfl : b1107 = true := hb1107.symm.trans (decide_eq_true c1108)
    refine VL.un rfl rfl (ltn rfl) ?_
    refine VL.un rfl rfl (ltn rfl) ?_
    refine VL.va (op_pick rfl rfl (ltn rfl)) rfl ?_
    refine VL.done ?_
    refine VN.then ?_
    refine VC.cond_t rfl ?_
    refine VC.seq ?_
    refine VC.region ?_
    refine VL.va (op_build (vals := []) (vcs := []) (cells := [.slice none 0 0, .slice none 0 0]) SI25 rfl .nil (by kernel_rfl) (ltn rfl)) rfl ?_
    refine VL.step1 (o_store 0 2 rfl rfl rfl TI25 (.agg (.of rfl)) rfl (len rfl)) rfl ?_
    refine VL.va (op_assign rfl (ltn rfl)) rfl ?_
    refine VL.done ?_
    refine VN.then ?_
    refine VC.ret ?_
    refine VR.then ?_
    simp only [Option.some.injEq, Prod.mk.injEq] at h
    obtain ⟨rfl, rfl, rfl⟩ := h
    refine VR.nilRow' 9 1 ?_
    refine VR.nilRow' 33 2 ?_
    exact VR.fn (rs := [.cell 2 25, .tmp 3]) [] [((.slice none 0 0), 9, 1, ([] : List ByteArray).map enc_str), ((.slice none 0 0), 33, 2, ([] : List S32).map enc32)] [1, 0] rfl (.cell 0 rfl rfl TI25 (fun h => absurd h (by decide)) (.tmp rfl .nil)) ⟨(.slice none 0 0), (.slice none 0 0), rfl, rfl, rfl⟩ trivial rfl (by decide)
  · rw [if_neg c1108] at h
    obtain rfl : b1107 = false := hb1107.symm.trans (decide_eq_false c1108)
    refine VL.va (op_move rfl (ltn rfl)) rfl ?_
    refine VL.letter (decide (a0 > 512)) fun b1111 hb1111 => ?_
    refine VL.va (op_cmp rfl rfl (congrArg some hb1111) (ltn rfl)) rfl ?_
    refine VL.va (op_pick rfl rfl (ltn rfl)) rfl ?_
    refine VL.done ?_
    refine VN.then ?_
    by_cases c1112 : a0 > 512
    · rw [if_pos c1112] at h
      obtain rfl : b1111 = true := hb1111.symm.trans (decide_eq_true c1112)
      refine VC.cond_t rfl ?_
      refine VC.seq ?_
      refine VC.region ?_
      refine VL.va (op_build (vals := []) (vcs := []) (cells := [.slice none 0 0, .slice none 0 0]) SI25 rfl .nil (by kernel_rfl) (ltn rfl)) rfl ?_
      refine VL.step1 (o_store 0 2 rfl rfl rfl TI25 (.agg (.of rfl)) rfl (len rfl)) rfl ?_
      refine VL.va (op_assign rfl (ltn rfl)) rfl ?_
      refine VL.done ?_
      refine VN.then ?_
      refine VC.ret ?_
      refine VR.then ?_
      simp only [Option.some.injEq, Prod.mk.injEq] at h
      obtain ⟨rfl, rfl, rfl⟩ := h
      refine VR.nilRow' 9 1 ?_
      refine VR.nilRow' 33 2 ?_
      exact VR.fn (rs := [.cell 2 25, .tmp 3]) [] [((.slice none 0 0), 9, 1, ([] : List ByteArray).map enc_str), ((.slice none 0 0), 33, 2, ([] : List S32).map enc32)] [1, 0] rfl (.cell 0 rfl rfl TI25 (fun h => absurd h (by decide)) (.tmp rfl .nil)) ⟨(.slice none 0 0), (.slice none 0 0), rfl, rfl, rfl⟩ trivial rfl (by decide)
    · rw [if_neg c1112] at h
      obtain rfl : b1111 = false := hb1111.symm.trans (decide_eq_false c1112)
      refine VC.cond_f rfl ?_
      refine VC.skip ?_
      refine VN.then ?_
      refine VC.seq ?_
      refine VC.region ?_
      replace h := Option.bind_eq_some_iff.1 h
      obtain ⟨r1115, hA1116, h⟩ := h
      refine VL.sC (o_call0 FO14 (strings_Repeat.ok (⟨#[0]⟩ : ByteArray) 64 r1115 hA1116) rfl rfl (ltn rfl) (All_of .nil)) rfl ?_
      rintro _ _ _ ⟨rfl, rfl, rfl⟩
      refine VL.sG (o_buildSlice (vals := [(0, .string r1115)]) (cells := #[.string r1115]) (es := List.map enc_str ([r1115] : List ByteArray)) Try.underlying22 TI9 Z9 rfl (by decide) (by decide) (by kernel_rfl) (by kernel_rfl) rfl (flat_map enc_str_ok _) (ltn rfl)) rfl ?_
      intro v1118
      refine VL.va (op_move rfl (ltn rfl)) rfl ?_
      replace h := Option.bind_eq_some_iff.1 h
      obtain ⟨r1119, hA1120, h⟩ := h
      refine VL.sC (o_call_b0 FO20 (slices_Repeat_string_string.ok ([r1115] : List ByteArray) a0 v1118 r1119 hA1120) rfl rfl (ltn rfl) (All_of (.cons (.inr (.inl ⟨_, List.mem_of_getElem? (i := 0) rfl, rfl⟩)) .nil)) (by rintro _ _ _ ⟨_, rfl, rfl, rfl⟩; rfl)) rfl ?_
      rintro v1122 _ _ ⟨_, rfl, rfl, rfl⟩
      refine VL.va (op_build (vals := [(0, v1122)]) (vcs := [(0, [v1122])]) (cells := [v1122, .slice none 0 0]) SI25 rfl (.cons ⟨rfl, (.r 0 rfl)⟩ .nil) (by kernel_rfl) (ltn rfl)) rfl ?_
      refine VL.step1 (o_store 0 2 rfl rfl rfl TI25 (.agg (.r 0 rfl (.c rfl .nil))) rfl (len rfl)) rfl ?_
      refine VL.va (op_assign rfl (ltn rfl)) rfl ?_
      refine VL.done ?_
      refine VN.then ?_
      refine VC.ret ?_
      simp only [Option.some.injEq, Prod.mk.injEq] at h
      obtain ⟨rfl, rfl, rfl⟩ := h
      refine VR.nilRow' 33 2 ?_
      exact VR.fn (rs := [.cell 2 25, .tmp 3]) [] [(v1122, 9, 1, r1119.map enc_str), ((.slice none 0 0), 33, 2, ([] : List S32).map enc32)] [1, 0] rfl (.cell 0 rfl rfl TI25 (fun h => absurd h (by decide)) (.tmp rfl .nil)) ⟨v1122, (.slice none 0 0), rfl, rfl, rfl⟩ trivial rfl (by decide)
set_option maxHeartbeats 4000000 in
set_option maxRecDepth 100000 in
theorem slices_Clip_api_Write_api_Write.ok (l0 : List S32) (v0 : Value) (r1 : List S32) (h : slices_Clip_api_Write_api_Write.f l0 = some r1) :
    VCalls Try.prog 21 [v0] [.row v0 2 (l0.map enc32)] (fun v G own => ∃ A : Option Addr, v = .slice A r1.length r1.length ∧ G = [.row (.slice A r1.length r1.length) 2 (r1.map enc32)] ∧ own = []) := by
  obtain rfl := Option.some.inj h
  clear h
  refine VCalls.intro Try.func21 rfl (len rfl) fun E hC hW hD hU => ?_
  refine VC.seq (VC.region ?_)
  refine VL.va (op_assign rfl (ltn rfl)) rfl ?_
  refine VL.done (VN.then ?_)
  refine VC.seq (VC.region ?_)
  refine VL.va (op_move rfl (ltn rfl)) rfl ?_
  refine VL.va (op_move rfl (ltn rfl)) rfl ?_
  refine VL.va (op_len (m := l0.length) 0 lenm Try.underlying23 rfl rfl (ltn rfl)) rfl ?_
  refine VL.va (op_move rfl (ltn rfl)) rfl ?_
  refine VL.va (op_len (m := l0.length) 0 lenm Try.underlying23 rfl rfl (ltn rfl)) rfl ?_
  refine VL.sG (o_clip (m := l0.length) 0 lenm Try.underlying23 TI33 rfl rfl rfl rfl (ltn rfl)) rfl ?_
  intro A
  refine VL.va (op_assign rfl (ltn rfl)) rfl ?_
  refine VL.done (VN.then ?_)
  refine VC.ret ?_
  exact VR.fn (rs := [.tmp 2]) [.row (.slice A l0.length l0.length) 2 (l0.map enc32)] [] [] rfl (.tmp rfl .nil) ⟨_, rfl, rfl, rfl⟩ ⟨⟨0, rfl⟩, trivial⟩ rfl (by decide)

end Go.Proofs.Ytlfkendmepdbkaa.PDiskCrashes
