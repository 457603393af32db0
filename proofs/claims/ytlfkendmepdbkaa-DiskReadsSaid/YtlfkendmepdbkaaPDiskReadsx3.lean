/- Written by a program of this repo: what the program's functions do, each as a Lean function, shown of the loaded code; or a statement's row over that; no condition of its own. -/
import Derived.Test.YtlfkendmepdbkaaPDiskReadsx2
namespace Go.Proofs.Ytlfkendmepdbkaa.PDiskReads
open Go Go.RowKit Go.Proofs.YtlfkendmepdbkaaV
set_option linter.unusedVariables false
set_option linter.unusedSimpArgs false

set_option maxHeartbeats 4000000 in
set_option maxRecDepth 100000 in
theorem disk_Crash.ok (k : Nat) (l0_0 : List ByteArray) (l0_1 : List S32) (a1 : Int) (a2 : Int) (v0_0 : Value) (v0_1 : Value) (r1 : List ByteArray) (r2 : List S32) (r3 : Int) (h : disk_Crash.f k l0_0 l0_1 a1 a2 = some (r1, r2, r3)) :
    VCalls Try.prog 7 [.agg #[v0_0, v0_1], .int .u64 a1, .int .i64 a2] [.row v0_0 1 (l0_0.map enc_str), .row v0_1 2 (l0_1.map enc32)] (fun v G own => ∃ w0 w1 : Value, v = .tuple #[.agg #[w0, w1], .int .i64 r3] ∧ G = [] ∧ own = [(w0, 9, 1, r1.map enc_str), (w1, 33, 2, r2.map enc32)]) := by
  refine VCalls.introU (fun T => T = 5) Try.func7 rfl (len rfl) fun E hC hW hD hU => ?_
  unfold disk_Crash.f at h
  refine VC.seq ?_
  refine VC.region ?_
  refine VL.sG (o_box rfl (.agg (.f 0 rfl (.f 1 rfl .nil))) (ltn rfl)) rfl ?_
  intro g783
  refine VL.sG (o_alloc Z25 ZL25 (ltn rfl)) rfl ?_
  intro g784
  refine VL.va (op_assign rfl (ltn rfl)) rfl ?_
  refine VL.done ?_
  refine VN.then ?_
  refine VC.seq ?_
  refine VC.seq ?_
  refine VC.region ?_
  refine VL.va (op_load 1 2 rfl rfl TI25 rfl (fun h => absurd h (by decide)) (ltn rfl)) rfl ?_
  replace h := Option.bind_eq_some_iff.1 h
  obtain ⟨t796, hA797, h⟩ := h
  refine VL.sC (o_call0 FO16 (disk_Right.ok k l0_0 l0_1 v0_0 v0_1 t796 hA797) rfl rfl (ltn rfl) (All_of (.cons (List.mem_of_getElem? (i := 0) rfl) (.cons (List.mem_of_getElem? (i := 1) rfl) .nil)))) rfl ?_
  rintro _ _ _ ⟨rfl, rfl, rfl⟩
  by_cases c798 : t796 = true
  · rw [if_pos c798] at h
    obtain rfl := c798
    refine VL.va (op_not rfl rfl (ltn rfl)) rfl ?_
    refine VL.done ?_
    refine VN.then ?_
    refine VC.cond_f rfl ?_
    refine VC.skip ?_
    refine VN.then ?_
    refine VC.seq ?_
    refine VC.region ?_
    refine VL.va (op_fieldAddr FI25_0 rfl (add_at _ _ _) (ltn rfl)) rfl ?_
    refine VL.va (op_load 1 1 rfl rfl TI22 rfl (by decide) (ltn rfl)) rfl ?_
    replace h := Option.bind_eq_some_iff.1 h
    obtain ⟨r799, hA800, h⟩ := h
    refine VL.sC (o_call_b0 FO19 (slices_Clone_string_string.ok l0_0 v0_0 r799 hA800) rfl rfl (ltn rfl) (All_of (.cons (.inl (List.mem_of_getElem? (i := 0) rfl)) .nil)) (by rintro _ _ _ ⟨_, rfl, rfl, rfl⟩; rfl)) rfl ?_
    rintro v802 _ _ ⟨_, rfl, rfl, rfl⟩
    refine VL.va (op_assign rfl (ltn rfl)) rfl ?_
    refine VL.done ?_
    refine VN.then ?_
    refine VC.seq ?_
    refine VC.region ?_
    refine VL.va (op_assign rfl (ltn rfl)) rfl ?_
    refine VL.done ?_
    refine VN.then ?_
    refine VC.join3 (fun (v1206 : Value) (l1207 : List ByteArray) (i1208 : Int) => ⟨77, [(2, .int .i64 a2), (3, .pointer (some ⟨g783, 0, none⟩)), (6, .pointer (some ⟨g784, 0, none⟩)), (7, .int .i64 0), (8, v1206), (9, .int .i64 i1208)], [.row v0_0 1 (l0_0.map enc_str), .row v0_1 2 (l0_1.map enc32)], [(g784, 25, [.slice none 0 0, .slice none 0 0]), (g783, 25, [v0_0, v0_1])], [(v1206, 9, 1, l1207.map enc_str)]⟩) (fun (v1206 : Value) (l1207 : List ByteArray) (i1208 : Int) => disk_Crash.j2 k a2 l0_1 l1207 i1208 = some (r1, r2, r3)) ?_ ?_
    · refine VC.seq ?_
      refine VC.region ?_
      refine VL.va (op_fieldAddr FI25_1 rfl (add_at _ _ _) (ltn rfl)) rfl ?_
      refine VL.va (op_load 1 1 rfl rfl TI23 rfl (by decide) (ltn rfl)) rfl ?_
      refine VL.va (op_len (m := l0_1.length) 1 lenm Try.underlying23 rfl rfl (ltn rfl)) rfl ?_
      refine VL.va (op_move rfl (ltn rfl)) rfl ?_
      refine VL.done ?_
      refine VN.then ?_
      refine VC.block ?_
      refine VC.loop4 (fun (v1143 : Value) (l1144 : List ByteArray) (i1145 : Int) (i1146 : Int) => ⟨77, [(1, .int .u64 a1), (2, .int .i64 a2), (3, .pointer (some ⟨g783, 0, none⟩)), (6, .pointer (some ⟨g784, 0, none⟩)), (7, .int .i64 0), (8, v1143), (9, .int .i64 i1145), (22, v0_1), (23, .int .i64 (l0_1.length : Int)), (24, .int .i64 i1146)], [.row v0_1 2 (l0_1.map enc32), .row v0_0 1 (l0_0.map enc_str)], [(g784, 25, [.slice none 0 0, .slice none 0 0]), (g783, 25, [v0_0, v0_1])], [(v1143, 9, 1, l1144.map enc_str)]⟩) (fun (ml3 : Nat) (v1143 : Value) (l1144 : List ByteArray) (i1145 : Int) (i1146 : Int) => disk_Crash.l3 k a1 a2 l0_1 ml3 l1144 i1145 i1146 = some (r1, r2, r3)) k v802 r799 (-1) 0 [0, 1] [0] h ⟨rfl, ⟨rfl, rfl, rfl, rfl, rfl, rfl, rfl, rfl, rfl, rfl, trivial⟩, ⟨⟨1, rfl⟩, ⟨0, rfl⟩, trivial⟩, rfl, by decide, rfl, by decide⟩ (by intros; simp [disk_Crash.l3]) ?_
      clear h
      intro ml3 ihl3 v1143 l1144 i1145 i1146 h
      simp only [disk_Crash.l3] at h
      refine VC.seq ?_
      refine VC.region ?_
      refine VL.letter (decide (i1146 < (l0_1.length : Int))) fun b1176 hb1176 => ?_
      refine VL.va (op_cmp rfl rfl (congrArg some hb1176) (ltn rfl)) rfl ?_
      refine VL.done ?_
      refine VN.then ?_
      refine VC.seq ?_
      by_cases c1178 : i1146 < (l0_1.length : Int)
      · rw [if_pos c1178] at h
        obtain rfl : b1176 = true := hb1176.symm.trans (decide_eq_true c1178)
        refine VC.cond_t rfl ?_
        refine VC.skip ?_
        refine VN.then ?_
        refine VC.seq ?_
        refine VC.block ?_
        refine VC.seq ?_
        refine VC.region ?_
        refine VL.va (op_move rfl (ltn rfl)) rfl ?_
        by_cases c1192 : 0 ≤ i1146
        · rw [if_pos c1192] at h
          replace h := Option.bind_eq_some_iff.1 h
          obtain ⟨x1193, hx1193, h⟩ := h
          refine VL.open (m := l0_1.length) 0 lenm rfl (pos_get hx1193) ?_
          rintro ad1194 n1195 rfl
          refine VL.va (op_indexAddr Try.underlying23 TI33 rfl rfl c1192 (lt_get c1192 hx1193) rfl (ltn rfl)) rfl ?_
          refine VL.va (op_load_row (sz := 2) (o := 0) 0 i1146.toNat 2 rfl rfl (get_map hx1193) TI33 rfl (fun h => absurd h (by decide)) (ltn rfl)) rfl ?_
          refine VL.sG (o_alloc Z33 ZL33 (ltn rfl)) rfl ?_
          intro g1196
          refine VL.va (op_assign rfl (ltn rfl)) rfl ?_
          refine VL.step1 (o_store 0 2 rfl rfl rfl TI33 (.agg (.of rfl)) rfl (len rfl)) rfl ?_
          refine VL.done ?_
          refine VN.then ?_
          refine VC.seq ?_
          refine VC.region ?_
          refine VL.va (op_move rfl (ltn rfl)) rfl ?_
          refine VL.va (op_move rfl (ltn rfl)) rfl ?_
          refine VL.va (op_shr rfl rfl c1192 rfl (ltn rfl)) rfl ?_
          refine VL.va (op_bits rfl rfl rfl (ltn rfl)) rfl ?_
          refine VL.letter (((Go.bits .and .u64 (a1.fdiv (2 ^ min i1146.toNat IntKind.u64.bits)) 1) == 1)) fun b1197 hb1197 => ?_
          refine VL.va (op_cmp rfl rfl (congrArg some hb1197) (ltn rfl)) rfl ?_
          refine VL.done ?_
          refine VN.then ?_
          by_cases c1198 : (Go.bits .and .u64 (a1.fdiv (2 ^ min i1146.toNat IntKind.u64.bits)) 1) = 1
          · rw [if_pos c1198] at h
            obtain rfl : b1197 = true := hb1197.symm.trans (beq_iff_eq.2 c1198)
            refine VC.cond_t rfl ?_
            refine VC.region ?_
            refine VL.va (op_move rfl (ltn rfl)) rfl ?_
            refine VL.va (op_fieldAddr FI33_0 rfl (add_at _ _ _) (ltn rfl)) rfl ?_
            refine VL.va (op_load 0 1 rfl rfl TI3 rfl (by decide) (ltn rfl)) rfl ?_
            refine VL.va (op_fieldAddr FI33_1 rfl (add_at _ _ _) (ltn rfl)) rfl ?_
            refine VL.va (op_load 0 1 rfl rfl TI9 rfl (by decide) (ltn rfl)) rfl ?_
            by_cases c1199 : 0 ≤ x1193.f0
            · rw [if_pos c1199] at h
              replace h := Option.bind_eq_some_iff.1 h
              obtain ⟨x1200, hx1200, h⟩ := h
              refine VL.openR (m := l1144.length) 0 lenm rfl (pos_get hx1200) ?_
              rintro g1201 n1202 rfl
              refine VL.va (op_indexAddr Try.underlying22 TI9 rfl rfl c1199 (lt_get c1199 hx1200) (add_zero_at _ _) (ltn rfl)) rfl ?_
              refine VL.step1 (o_store_own (sz := 1) (o := 0) (es3 := List.map enc_str (l1144.set x1193.f0.toNat x1193.f1)) 0 x1193.f0.toNat 1 lenm (setm rfl) rfl rfl rfl (get_map hx1200) TI9 (.c rfl) rfl (len rfl)) rfl ?_
              refine VL.done ?_
              refine VN.block ?_
              refine VN.then ?_
              refine VC.region ?_
              refine VL.va (op_ari64 rfl rfl rfl (ltn rfl)) rfl ?_
              refine VL.va (op_move rfl (ltn rfl)) rfl ?_
              refine VL.done ?_
              refine VN.again [1, 2] [0] (ihl3 (.slice (some ⟨g1201, 0, none⟩) l1144.length n1202) (l1144.set x1193.f0.toNat x1193.f1) i1145 (wrap64 (i1146 + 1)) h) ⟨rfl, ⟨rfl, rfl, rfl, rfl, rfl, rfl, rfl, rfl, rfl, rfl, trivial⟩, ⟨⟨0, rfl⟩, ⟨1, rfl⟩, trivial⟩, rfl, by decide, rfl, by decide⟩
            · rw [if_neg c1199] at h; cases h
          · rw [if_neg c1198] at h
            obtain rfl : b1197 = false := hb1197.symm.trans (beq_eq_false_iff_ne.2 c1198)
            refine VC.cond_f rfl ?_
            refine VC.region ?_
            refine VL.va (op_move rfl (ltn rfl)) rfl ?_
            refine VL.va (op_assign rfl (ltn rfl)) rfl ?_
            refine VL.done ?_
            refine VN.block ?_
            refine VN.then ?_
            refine VC.region ?_
            refine VL.va (op_ari64 rfl rfl rfl (ltn rfl)) rfl ?_
            refine VL.va (op_move rfl (ltn rfl)) rfl ?_
            refine VL.done ?_
            refine VN.again [1, 2] [0] (ihl3 v1143 l1144 i1146 (wrap64 (i1146 + 1)) h) ⟨rfl, ⟨rfl, rfl, rfl, rfl, rfl, rfl, rfl, rfl, rfl, rfl, trivial⟩, ⟨⟨0, rfl⟩, ⟨1, rfl⟩, trivial⟩, rfl, by decide, rfl, by decide⟩
        · rw [if_neg c1192] at h; cases h
      · rw [if_neg c1178] at h
        obtain rfl : b1176 = false := hb1176.symm.trans (decide_eq_false c1178)
        refine VC.cond_f rfl ?_
        refine VC.exit ?_
        refine VX.then ?_
        refine VX.then ?_
        refine VX.hit ?_
        refine VN.meet3 v1143 l1144 i1145 [0, 1] [0] h ⟨rfl, ⟨rfl, rfl, rfl, rfl, rfl, rfl, trivial⟩, ⟨⟨1, rfl⟩, ⟨0, rfl⟩, trivial⟩, rfl, by decide, rfl, by decide⟩
    clear h
    intro v1206 l1207 i1208 h
    unfold disk_Crash.j2 at h
    refine VC.seq ?_
    refine VC.seq ?_
    refine VC.region ?_
    refine VL.va (op_move rfl (ltn rfl)) rfl ?_
    refine VL.letter (decide (i1208 ≥ 0)) fun b1244 hb1244 => ?_
    refine VL.va (op_cmp rfl rfl (congrArg some hb1244) (ltn rfl)) rfl ?_
    refine VL.va (op_move rfl (ltn rfl)) rfl ?_
    by_cases c1245 : i1208 ≥ 0
    · rw [if_pos c1245] at h
      obtain rfl : b1244 = true := hb1244.symm.trans (decide_eq_true c1245)
      refine VL.va (op_move rfl (ltn rfl)) rfl ?_
      refine VL.letter (decide (a2 ≥ 1)) fun b1246 hb1246 => ?_
      refine VL.va (op_cmp rfl rfl (congrArg some hb1246) (ltn rfl)) rfl ?_
      refine VL.va (op_pick rfl rfl (ltn rfl)) rfl ?_
      refine VL.va (op_move rfl (ltn rfl)) rfl ?_
      by_cases c1247 : a2 ≥ 1
      · rw [if_pos c1247] at h
        obtain rfl : b1246 = true := hb1246.symm.trans (decide_eq_true c1247)
        refine VL.va (op_move rfl (ltn rfl)) rfl ?_
        refine VL.letter (decide (a2 < 64)) fun b1248 hb1248 => ?_
        refine VL.va (op_cmp rfl rfl (congrArg some hb1248) (ltn rfl)) rfl ?_
        refine VL.va (op_pick rfl rfl (ltn rfl)) rfl ?_
        refine VL.done ?_
        refine VN.then ?_
        by_cases c1249 : a2 < 64
        · rw [if_pos c1249] at h
          obtain rfl : b1248 = true := hb1248.symm.trans (decide_eq_true c1249)
          refine VC.cond_t rfl ?_
          refine VC.seq ?_
          refine VC.region ?_
          refine VL.va (op_fieldAddr FI25_1 rfl (add_at _ _ _) (ltn rfl)) rfl ?_
          refine VL.va (op_load 1 1 rfl rfl TI23 rfl (by decide) (ltn rfl)) rfl ?_
          refine VL.va (op_move rfl (ltn rfl)) rfl ?_
          by_cases c1250 : 0 ≤ i1208
          · rw [if_pos c1250] at h
            replace h := Option.bind_eq_some_iff.1 h
            obtain ⟨x1251, hx1251, h⟩ := h
            refine VL.open (m := l0_1.length) 1 lenm rfl (pos_get hx1251) ?_
            rintro ad1252 n1253 rfl
            refine VL.va (op_indexAddr Try.underlying23 TI33 rfl rfl c1250 (lt_get c1250 hx1251) rfl (ltn rfl)) rfl ?_
            refine VL.va (op_load_row (sz := 2) (o := 0) 1 i1208.toNat 2 rfl rfl (get_map hx1251) TI33 rfl (fun h => absurd h (by decide)) (ltn rfl)) rfl ?_
            refine VL.sG (o_alloc Z33 ZL33 (ltn rfl)) rfl ?_
            intro g1254
            refine VL.step1 (o_store 0 2 rfl rfl rfl TI33 (.agg (.of rfl)) rfl (len rfl)) rfl ?_
            refine VL.done ?_
            refine VN.then ?_
            refine VC.seq ?_
            refine VC.region ?_
            refine VL.va (op_move rfl (ltn rfl)) rfl ?_
            refine VL.va (op_fieldAddr FI33_0 rfl (add_at _ _ _) (ltn rfl)) rfl ?_
            refine VL.va (op_load 0 1 rfl rfl TI3 rfl (by decide) (ltn rfl)) rfl ?_
            by_cases c1255 : 0 ≤ x1251.f0
            · rw [if_pos c1255] at h
              replace h := Option.bind_eq_some_iff.1 h
              obtain ⟨x1256, hx1256, h⟩ := h
              refine VL.openR (m := l1207.length) 0 lenm rfl (pos_get hx1256) ?_
              rintro g1257 n1258 rfl
              refine VL.va (op_indexAddr Try.underlying22 TI9 rfl rfl c1255 (lt_get c1255 hx1256) (add_zero_at _ _) (ltn rfl)) rfl ?_
              refine VL.va (op_load_own (sz := 1) (o := 0) 0 x1251.f0.toNat 1 rfl rfl (get_map hx1256) TI9 rfl (by decide) (ltn rfl)) rfl ?_
              refine o_strBytesB Try.underlying9 Try.underlying48 Try.underlying5 (by rw [hU]) rfl (ltn rfl) rfl fun g1259 n1260 z1261 => ?_
              refine VL.va (op_assign rfl (ltn rfl)) rfl ?_
              refine VL.done ?_
              refine VN.then ?_
              refine VC.seq ?_
              refine VC.region ?_
              refine VL.va (op_move rfl (ltn rfl)) rfl ?_
              refine VL.va (op_fieldAddr FI33_1 rfl (add_at _ _ _) (ltn rfl)) rfl ?_
              refine VL.va (op_load 1 1 rfl rfl TI9 rfl (by decide) (ltn rfl)) rfl ?_
              refine VL.va (op_move rfl (ltn rfl)) rfl ?_
              by_cases c1262 : 0 ≤ a2
              · rw [if_pos c1262] at h
                by_cases c1263 : a2 ≤ (x1251.f1.size : Int)
                · rw [if_pos c1263] at h
                  refine VL.va (op_sliceS 0 a2.toNat Try.underlying9 rfl ⟨rfl, ⟨_, _, rfl, c1262, rfl⟩, by omega, by omega⟩ rfl (ltn rfl)) rfl ?_
                  by_cases c1264 : (byI x1256).length = x1256.size
                  · rw [if_pos c1264] at h
                    refine VL.step1 (o_copyS 0 Try.underlying48 TI5 rfl rfl rfl c1264 rfl (ltn rfl)) rfl ?_
                    refine VL.done ?_
                    refine VN.then ?_
                    refine VC.region ?_
                    refine VL.va (op_move rfl (ltn rfl)) rfl ?_
                    refine VL.va (op_fieldAddr FI33_0 rfl (add_at _ _ _) (ltn rfl)) rfl ?_
                    refine VL.va (op_load 1 1 rfl rfl TI3 rfl (by decide) (ltn rfl)) rfl ?_
                    refine VL.va (op_move rfl (ltn rfl)) rfl ?_
                    by_cases c1265 : ((byI (x1251.f1.extract 0 a2.toNat)).take (min (x1251.f1.extract 0 a2.toNat).size x1256.size) ++ (byI x1256).drop (min (x1251.f1.extract 0 a2.toNat).size x1256.size)).length = x1256.size
                    · rw [if_pos c1265] at h
                      refine VL.va (op_bytesStrB 0 Try.underlying48 Try.underlying9 Try.underlying5 rfl rfl c1265 (ltn rfl)) rfl ?_
                      replace h := Option.bind_eq_some_iff.1 h
                      obtain ⟨x1266, hx1266, h⟩ := h
                      refine VL.va (op_indexAddr Try.underlying22 TI9 rfl rfl c1255 (lt_get c1255 hx1266) (add_zero_at _ _) (ltn rfl)) rfl ?_
                      refine VL.step1 (o_store_own (sz := 1) (o := 0) (es3 := List.map enc_str (l1207.set x1251.f0.toNat (strOfNums ((byI (x1251.f1.extract 0 a2.toNat)).take (min (x1251.f1.extract 0 a2.toNat).size x1256.size) ++ (byI x1256).drop (min (x1251.f1.extract 0 a2.toNat).size x1256.size))))) 0 x1251.f0.toNat 1 lenm (setm rfl) rfl rfl rfl (get_map hx1266) TI9 (.c rfl) rfl (len rfl)) rfl ?_
                      refine VL.done ?_
                      refine VN.then ?_
                      refine VC.seq ?_
                      refine VC.region ?_
                      refine VL.va (op_move rfl (ltn rfl)) rfl ?_
                      refine VL.va (op_build (vals := [(0, (.slice (some ⟨g1257, 0, none⟩) l1207.length n1258))]) (vcs := [(0, [(.slice (some ⟨g1257, 0, none⟩) l1207.length n1258)])]) (cells := [(.slice (some ⟨g1257, 0, none⟩) l1207.length n1258), .slice none 0 0]) SI25 rfl (.cons ⟨rfl, (.r 0 rfl)⟩ .nil) (by kernel_rfl) (ltn rfl)) rfl ?_
                      refine VL.step1 (o_store 2 2 rfl rfl rfl TI25 (.agg (.r 0 rfl (.c rfl .nil))) rfl (len rfl)) rfl ?_
                      refine VL.va (op_assign rfl (ltn rfl)) rfl ?_
                      refine VL.done ?_
                      refine VN.then ?_
                      refine VC.ret ?_
                      simp only [Option.some.injEq, Prod.mk.injEq] at h
                      obtain ⟨rfl, rfl, rfl⟩ := h
                      refine VR.nilRow' 33 2 ?_
                      exact VR.fn (rs := [.cell 6 25, .tmp 7]) [] [((.slice (some ⟨g1257, 0, none⟩) l1207.length n1258), 9, 1, (l1207.set x1251.f0.toNat (strOfNums ((byI (x1251.f1.extract 0 a2.toNat)).take (min (x1251.f1.extract 0 a2.toNat).size x1256.size) ++ (byI x1256).drop (min (x1251.f1.extract 0 a2.toNat).size x1256.size)))).map enc_str), ((.slice none 0 0), 33, 2, ([] : List S32).map enc32)] [1, 0] rfl (.cell 2 rfl rfl TI25 (fun h => absurd h (by decide)) (.tmp rfl .nil)) ⟨(.slice (some ⟨g1257, 0, none⟩) l1207.length n1258), (.slice none 0 0), rfl, rfl, rfl⟩ trivial rfl (by decide)
                    · rw [if_neg c1265] at h; cases h
                  · rw [if_neg c1264] at h; cases h
                · rw [if_neg c1263] at h; cases h
              · rw [if_neg c1262] at h; cases h
            · rw [if_neg c1255] at h; cases h
          · rw [if_neg c1250] at h; cases h
        · rw [if_neg c1249] at h
          obtain rfl : b1248 = false := hb1248.symm.trans (decide_eq_false c1249)
          refine VC.cond_f rfl ?_
          refine VC.skip ?_
          refine VN.then ?_
          refine VC.seq ?_
          refine VC.region ?_
          refine VL.va (op_move rfl (ltn rfl)) rfl ?_
          refine VL.va (op_build (vals := [(0, v1206)]) (vcs := [(0, [v1206])]) (cells := [v1206, .slice none 0 0]) SI25 rfl (.cons ⟨rfl, (.r 0 rfl)⟩ .nil) (by kernel_rfl) (ltn rfl)) rfl ?_
          refine VL.step1 (o_store 0 2 rfl rfl rfl TI25 (.agg (.r 0 rfl (.c rfl .nil))) rfl (len rfl)) rfl ?_
          refine VL.va (op_assign rfl (ltn rfl)) rfl ?_
          refine VL.done ?_
          refine VN.then ?_
          refine VC.ret ?_
          simp only [Option.some.injEq, Prod.mk.injEq] at h
          obtain ⟨rfl, rfl, rfl⟩ := h
          refine VR.nilRow' 33 2 ?_
          exact VR.fn (rs := [.cell 6 25, .tmp 7]) [] [(v1206, 9, 1, l1207.map enc_str), ((.slice none 0 0), 33, 2, ([] : List S32).map enc32)] [1, 0] rfl (.cell 0 rfl rfl TI25 (fun h => absurd h (by decide)) (.tmp rfl .nil)) ⟨v1206, (.slice none 0 0), rfl, rfl, rfl⟩ trivial rfl (by decide)
      · rw [if_neg c1247] at h
        obtain rfl : b1246 = false := hb1246.symm.trans (decide_eq_false c1247)
        refine VL.un rfl rfl (ltn rfl) ?_
        refine VL.un rfl rfl (ltn rfl) ?_
        refine VL.va (op_pick rfl rfl (ltn rfl)) rfl ?_
        refine VL.done ?_
        refine VN.then ?_
        refine VC.cond_f rfl ?_
        refine VC.skip ?_
        refine VN.then ?_
        refine VC.seq ?_
        refine VC.region ?_
        refine VL.va (op_move rfl (ltn rfl)) rfl ?_
        refine VL.va (op_build (vals := [(0, v1206)]) (vcs := [(0, [v1206])]) (cells := [v1206, .slice none 0 0]) SI25 rfl (.cons ⟨rfl, (.r 0 rfl)⟩ .nil) (by kernel_rfl) (ltn rfl)) rfl ?_
        refine VL.step1 (o_store 0 2 rfl rfl rfl TI25 (.agg (.r 0 rfl (.c rfl .nil))) rfl (len rfl)) rfl ?_
        refine VL.va (op_assign rfl (ltn rfl)) rfl ?_
        refine VL.done ?_
        refine VN.then ?_
        refine VC.ret ?_
        simp only [Option.some.injEq, Prod.mk.injEq] at h
        obtain ⟨rfl, rfl, rfl⟩ := h
        refine VR.nilRow' 33 2 ?_
        exact VR.fn (rs := [.cell 6 25, .tmp 7]) [] [(v1206, 9, 1, l1207.map enc_str), ((.slice none 0 0), 33, 2, ([] : List S32).map enc32)] [1, 0] rfl (.cell 0 rfl rfl TI25 (fun h => absurd h (by decide)) (.tmp rfl .nil)) ⟨v1206, (.slice none 0 0), rfl, rfl, rfl⟩ trivial rfl (by decide)
    · rw [if_neg c1245] at h
      obtain rfl : b1244 = false := hb1244.symm.trans (decide_eq_false c1245)
      refine VL.un rfl rfl (ltn rfl) ?_
      refine VL.un rfl rfl (ltn rfl) ?_
      refine VL.va (op_pick rfl rfl (ltn rfl)) rfl ?_
      refine VL.va (op_move rfl (ltn rfl)) rfl ?_
      refine VL.un rfl rfl (ltn rfl) ?_
      refine VL.un rfl rfl (ltn rfl) ?_
      refine VL.va (op_pick rfl rfl (ltn rfl)) rfl ?_
      refine VL.done ?_
      refine VN.then ?_
      refine VC.cond_f rfl ?_
      refine VC.skip ?_
      refine VN.then ?_
      refine VC.seq ?_
      refine VC.region ?_
      refine VL.va (op_move rfl (ltn rfl)) rfl ?_
      refine VL.va (op_build (vals := [(0, v1206)]) (vcs := [(0, [v1206])]) (cells := [v1206, .slice none 0 0]) SI25 rfl (.cons ⟨rfl, (.r 0 rfl)⟩ .nil) (by kernel_rfl) (ltn rfl)) rfl ?_
      refine VL.step1 (o_store 0 2 rfl rfl rfl TI25 (.agg (.r 0 rfl (.c rfl .nil))) rfl (len rfl)) rfl ?_
      refine VL.va (op_assign rfl (ltn rfl)) rfl ?_
      refine VL.done ?_
      refine VN.then ?_
      refine VC.ret ?_
      simp only [Option.some.injEq, Prod.mk.injEq] at h
      obtain ⟨rfl, rfl, rfl⟩ := h
      refine VR.nilRow' 33 2 ?_
      exact VR.fn (rs := [.cell 6 25, .tmp 7]) [] [(v1206, 9, 1, l1207.map enc_str), ((.slice none 0 0), 33, 2, ([] : List S32).map enc32)] [1, 0] rfl (.cell 0 rfl rfl TI25 (fun h => absurd h (by decide)) (.tmp rfl .nil)) ⟨v1206, (.slice none 0 0), rfl, rfl, rfl⟩ trivial rfl (by decide)
  · rw [if_neg c798] at h
    obtain rfl := Bool.eq_false_iff.2 c798
    refine VL.va (op_not rfl rfl (ltn rfl)) rfl ?_
    refine VL.done ?_
    refine VN.then ?_
    refine VC.cond_t rfl ?_
    refine VC.seq ?_
    refine VC.region ?_
    refine VL.va (op_build (vals := []) (vcs := []) (cells := [.slice none 0 0, .slice none 0 0]) SI25 rfl .nil (by kernel_rfl) (ltn rfl)) rfl ?_
    refine VL.step1 (o_store 0 2 rfl rfl rfl TI25 (.agg (.of rfl)) rfl (len rfl)) rfl ?_
    refine VL.va (op_assign rfl (ltn rfl)) rfl ?_
    refine VL.done ?_
    refine VN.then ?_
    refine VC.ret ?_
    refine VR.then ?_
    simp only [Option.some.injEq, Prod.mk.injEq] at h
    obtain ⟨rfl, rfl, rfl⟩ := h
    refine VR.nilRow' 9 1 ?_
    refine VR.nilRow' 33 2 ?_
    exact VR.fn (rs := [.cell 6 25, .tmp 7]) [] [((.slice none 0 0), 9, 1, ([] : List ByteArray).map enc_str), ((.slice none 0 0), 33, 2, ([] : List S32).map enc32)] [1, 0] rfl (.cell 0 rfl rfl TI25 (fun h => absurd h (by decide)) (.tmp rfl .nil)) ⟨(.slice none 0 0), (.slice none 0 0), rfl, rfl, rfl⟩ trivial rfl (by decide)
set_option maxHeartbeats 4000000 in
set_option maxRecDepth 100000 in
theorem slices_Backward_api_Write_api_Write.ok (l0 : List S32) (v0 : Value) (r1 : List S32) (h : slices_Backward_api_Write_api_Write.f l0 = some r1) :
    VCalls Try.prog 22 [v0] [.row v0 2 (l0.map enc32)] (fun v G own => ∃ w0 : Value, ∃ p0 : Nat, v = .func (.func 35) #[] #[.pointer (some ⟨p0, 0, none⟩)] ∧ G = [.row w0 2 (r1.map enc32), .at_ ⟨p0, 0, none⟩ [w0]] ∧ own = []) := by
  refine VCalls.intro Try.func22 rfl (len rfl) fun E hC hW hD hU => ?_
  unfold slices_Backward_api_Write_api_Write.f at h
  refine VC.seq ?_
  refine VC.region ?_
  refine VL.sG (o_box rfl (.f 0 rfl) (ltn rfl)) rfl ?_
  intro g1318
  refine VL.va (op_assign rfl (ltn rfl)) rfl ?_
  refine VL.done ?_
  refine VN.then ?_
  refine VC.seq ?_
  refine VC.region ?_
  refine VL.va (op_makeFunc (vals := [.pointer (some ⟨g1318, 0, none⟩)]) rfl (ltn rfl)) rfl ?_
  refine VL.va (op_assign rfl (ltn rfl)) rfl ?_
  refine VL.done ?_
  refine VN.then ?_
  refine VC.ret ?_
  obtain rfl := Option.some.inj h
  refine VR.freeze' 0 rfl ?_
  exact VR.fn (rs := [.tmp 2]) [.row v0 2 (l0.map enc32), .at_ ⟨g1318, 0, none⟩ [v0]] [] [] rfl (.tmp rfl .nil) ⟨v0, g1318, rfl, rfl, rfl⟩ ⟨⟨1, rfl⟩, ⟨0, rfl⟩, trivial⟩ rfl (by decide)
set_option maxHeartbeats 4000000 in
set_option maxRecDepth 100000 in
theorem disk_Get.ok (k : Nat) (l0_0 : List ByteArray) (l0_1 : List S32) (a1 : Int) (v0_0 : Value) (v0_1 : Value) (r1 : ByteArray) (r2 : Int) (h : disk_Get.f k l0_0 l0_1 a1 = some (r1, r2)) :
    VCalls Try.prog 11 [.agg #[v0_0, v0_1], .int .i64 a1] [.row v0_0 1 (l0_0.map enc_str), .row v0_1 2 (l0_1.map enc32)] (fun v G own => v = .tuple #[.string r1, .int .i64 r2] ∧ G = [] ∧ own = []) := by
  refine VCalls.introM Try.func11 rfl (len rfl) fun E hC hW hD hU => ?_
  unfold disk_Get.f at h
  refine VC.seq ?_
  refine VC.region ?_
  refine VL.sG (o_box rfl (.agg (.f 0 rfl (.f 1 rfl .nil))) (ltn rfl)) rfl ?_
  intro g1285
  refine VL.sG (o_box rfl (.c rfl) (ltn rfl)) rfl ?_
  intro g1286
  refine VL.sG (o_alloc Z9 ZL9 (ltn rfl)) rfl ?_
  intro g1287
  refine VL.sG (o_alloc Z28 ZL28 (ltn rfl)) rfl ?_
  intro g1288
  refine VL.done ?_
  refine VN.then ?_
  refine VC.seq ?_
  refine VC.block ?_
  refine VC.seq ?_
  refine VC.region ?_
  refine VL.va (op_load 3 2 rfl rfl TI25 rfl (fun h => absurd h (by decide)) (ltn rfl)) rfl ?_
  replace h := Option.bind_eq_some_iff.1 h
  obtain ⟨t1305, hA1306, h⟩ := h
  refine VL.sC (o_call0 FO16 (disk_Right.ok k l0_0 l0_1 v0_0 v0_1 t1305 hA1306) rfl rfl (ltn rfl) (All_of (.cons (List.mem_of_getElem? (i := 0) rfl) (.cons (List.mem_of_getElem? (i := 1) rfl) .nil)))) rfl ?_
  rintro _ _ _ ⟨rfl, rfl, rfl⟩
  by_cases c1307 : t1305 = true
  · rw [if_pos c1307] at h
    obtain rfl := c1307
    refine VL.va (op_not rfl rfl (ltn rfl)) rfl ?_
    refine VL.va (op_assign rfl (ltn rfl)) rfl ?_
    refine VL.done ?_
    refine VN.then ?_
    refine VC.cond_f rfl ?_
    refine VC.seq ?_
    refine VC.region ?_
    refine VL.va (op_load 2 1 rfl rfl TI3 rfl (by decide) (ltn rfl)) rfl ?_
    refine VL.letter (decide (a1 < 0)) fun b1311 hb1311 => ?_
    refine VL.va (op_cmp rfl rfl (congrArg some hb1311) (ltn rfl)) rfl ?_
    refine VL.va (op_move rfl (ltn rfl)) rfl ?_
    by_cases c1312 : a1 < 0
    · rw [if_pos c1312] at h
      obtain rfl : b1311 = true := hb1311.symm.trans (decide_eq_true c1312)
      refine VL.un rfl rfl (ltn rfl) ?_
      refine VL.un rfl rfl (ltn rfl) ?_
      refine VL.un rfl rfl (ltn rfl) ?_
      refine VL.un rfl rfl (ltn rfl) ?_
      refine VL.un rfl rfl (ltn rfl) ?_
      refine VL.va (op_pick rfl rfl (ltn rfl)) rfl ?_
      refine VL.va (op_assign rfl (ltn rfl)) rfl ?_
      refine VL.done ?_
      refine VN.then ?_
      refine VC.cond_t rfl ?_
      refine VC.seq ?_
      refine VC.region ?_
      refine VL.step1 (o_store 1 1 rfl rfl rfl TI9 (.c rfl) rfl (len rfl)) rfl ?_
      refine VL.step1 (o_store 0 1 rfl rfl rfl TI28 (.c rfl) rfl (len rfl)) rfl ?_
      refine VL.done ?_
      refine VN.then ?_
      refine VC.ret ?_
      refine VR.block ?_
      refine VR.then ?_
      simp only [Option.some.injEq, Prod.mk.injEq] at h
      obtain ⟨rfl, rfl⟩ := h
      refine VR.m0 ?_
      exact VR.fn (rs := [.cell 4 9, .cell 5 28]) [] [] [] rfl (.cell 1 rfl rfl TI9 (fun _ => rfl) (.cell 0 rfl rfl TI28 (fun _ => rfl) .nil)) ⟨rfl, rfl, rfl⟩ trivial rfl (by decide)
    · rw [if_neg c1312] at h
      obtain rfl : b1311 = false := hb1311.symm.trans (decide_eq_false c1312)
      refine VL.va (op_load 2 1 rfl rfl TI3 rfl (by decide) (ltn rfl)) rfl ?_
      refine VL.va (op_fieldAddr FI25_0 rfl (add_at _ _ _) (ltn rfl)) rfl ?_
      refine VL.va (op_load 3 1 rfl rfl TI22 rfl (by decide) (ltn rfl)) rfl ?_
      refine VL.va (op_len (m := l0_0.length) 0 lenm Try.underlying22 rfl rfl (ltn rfl)) rfl ?_
      refine VL.letter (decide (a1 ≥ (l0_0.length : Int))) fun b1313 hb1313 => ?_
      refine VL.va (op_cmp rfl rfl (congrArg some hb1313) (ltn rfl)) rfl ?_
      refine VL.va (op_pick rfl rfl (ltn rfl)) rfl ?_
      refine VL.va (op_assign rfl (ltn rfl)) rfl ?_
      refine VL.done ?_
      refine VN.then ?_
      by_cases c1314 : a1 ≥ (l0_0.length : Int)
      · rw [if_pos c1314] at h
        obtain rfl : b1313 = true := hb1313.symm.trans (decide_eq_true c1314)
        refine VC.cond_t rfl ?_
        refine VC.seq ?_
        refine VC.region ?_
        refine VL.step1 (o_store 1 1 rfl rfl rfl TI9 (.c rfl) rfl (len rfl)) rfl ?_
        refine VL.step1 (o_store 0 1 rfl rfl rfl TI28 (.c rfl) rfl (len rfl)) rfl ?_
        refine VL.done ?_
        refine VN.then ?_
        refine VC.ret ?_
        refine VR.block ?_
        refine VR.then ?_
        simp only [Option.some.injEq, Prod.mk.injEq] at h
        obtain ⟨rfl, rfl⟩ := h
        refine VR.m0 ?_
        exact VR.fn (rs := [.cell 4 9, .cell 5 28]) [] [] [] rfl (.cell 1 rfl rfl TI9 (fun _ => rfl) (.cell 0 rfl rfl TI28 (fun _ => rfl) .nil)) ⟨rfl, rfl, rfl⟩ trivial rfl (by decide)
      · rw [if_neg c1314] at h
        obtain rfl : b1313 = false := hb1313.symm.trans (decide_eq_false c1314)
        refine VC.cond_f rfl ?_
        refine VC.skip ?_
        refine VN.block ?_
        refine VN.then ?_
        refine VC.seq ?_
        refine VC.seq ?_
        refine VC.region ?_
        refine VL.va (op_fieldAddr FI25_1 rfl (add_at _ _ _) (ltn rfl)) rfl ?_
        refine VL.va (op_load 3 1 rfl rfl TI23 rfl (by decide) (ltn rfl)) rfl ?_
        replace h := Option.bind_eq_some_iff.1 h
        obtain ⟨r1319, hA1320, h⟩ := h
        refine VL.sC (o_call0 FO22 (slices_Backward_api_Write_api_Write.ok l0_1 v0_1 r1319 hA1320) rfl rfl (ltn rfl) (All_of (.cons (List.mem_of_getElem? (i := 1) rfl) .nil))) rfl ?_
        rintro _ _ _ ⟨v1322, g1323, rfl, rfl, rfl⟩
        refine VL.done ?_
        refine VN.then ?_
        refine VC.block ?_
        refine VC.rangeFunc (ps := [25, 26]) (caps := [.pointer (some ⟨g1323, 0, none⟩)]) Try.func35 FO35 rfl rfl (len rfl) fun D1324 l1325 L1326 hLl1325 hDD1324 => ?_
        refine VC.seq ?_
        refine VC.region ?_
        refine VL.va (op_load_at (ad := ⟨g1323, 0, none⟩) 3 0 1 (by first | rfl | exact congrArg (fun a => some (Value.pointer (some a))) (add_at _ 0 _).symm) rfl TI23 rfl (by decide) (ltn rfl)) rfl ?_
        refine VL.va (op_len (m := r1319.length) 2 lenm Try.underlying23 rfl rfl (ltn rfl)) rfl ?_
        refine VL.va (op_ari64 rfl rfl rfl (ltn rfl)) rfl ?_
        refine VL.va (op_assign rfl (ltn rfl)) rfl ?_
        refine VL.done ?_
        refine VN.then ?_
        refine VC.block ?_
        refine VC.loop1 (fun (i1359 : Int) => ⟨19, [(0, (.func (.yield l1325) #[] #[])), (1, .pointer (some ⟨g1323, 0, none⟩)), (3, .int .i64 i1359)], [.loop l1325 L1326 .ready none, .dfr D1324, .at_ ⟨g1323, 0, none⟩ [v1322], .row v0_0 1 (l0_0.map enc_str), .row v0_1 2 (l0_1.map enc32), .row v1322 2 (r1319.map enc32)], [(g1288, 28, [.int .i64 0]), (g1287, 9, [.string (⟨#[]⟩ : ByteArray)]), (g1286, 3, [.int .i64 a1]), (g1285, 25, [v0_0, v0_1])], []⟩) (fun (ml0 : Nat) (i1359 : Int) => disk_Get.l0 k a1 l0_0 r1319 ml0 i1359 = some (r1, r2)) k (wrap64 ((r1319.length : Int) - 1)) [0, 1, 2, 3] [] h ⟨rfl, ⟨rfl, rfl, rfl, trivial⟩, ⟨⟨0, rfl⟩, ⟨1, rfl⟩, ⟨3, rfl⟩, ⟨4, rfl⟩, ⟨5, rfl⟩, ⟨2, rfl⟩, trivial⟩, rfl, by decide, rfl, by decide⟩ (by intros; simp [disk_Get.l0]) ?_
        clear h
        intro ml0 ihl0 i1359 h
        simp only [disk_Get.l0] at h
        refine VC.seq ?_
        refine VC.seq ?_
        refine VC.region ?_
        refine VL.va (op_move rfl (ltn rfl)) rfl ?_
        refine VL.letter (decide (i1359 ≥ 0)) fun b1398 hb1398 => ?_
        refine VL.va (op_cmp rfl rfl (congrArg some hb1398) (ltn rfl)) rfl ?_
        refine VL.done ?_
        refine VN.then ?_
        by_cases c1399 : i1359 ≥ 0
        · rw [if_pos c1399] at h
          obtain rfl : b1398 = true := hb1398.symm.trans (decide_eq_true c1399)
          refine VC.cond_t rfl ?_
          refine VC.skip ?_
          refine VN.then ?_
          refine VC.seq ?_
          refine VC.block ?_
          refine VC.seq ?_
          refine VC.region ?_
          refine VL.va (op_move rfl (ltn rfl)) rfl ?_
          refine VL.va (op_move rfl (ltn rfl)) rfl ?_
          refine VL.va (op_load_at (ad := ⟨g1323, 0, none⟩) 2 0 1 (by first | rfl | exact congrArg (fun a => some (Value.pointer (some a))) (add_at _ 0 _).symm) rfl TI23 rfl (by decide) (ltn rfl)) rfl ?_
          refine VL.va (op_move rfl (ltn rfl)) rfl ?_
          by_cases c1421 : 0 ≤ i1359
          · rw [if_pos c1421] at h
            replace h := Option.bind_eq_some_iff.1 h
            obtain ⟨x1422, hx1422, h⟩ := h
            refine VL.open (m := r1319.length) 5 lenm rfl (pos_get hx1422) ?_
            rintro ad1423 n1424 rfl
            refine VL.va (op_indexAddr Try.underlying23 TI33 rfl rfl c1421 (lt_get c1421 hx1422) rfl (ltn rfl)) rfl ?_
            refine VL.va (op_load_row (sz := 2) (o := 0) 5 i1359.toNat 2 rfl rfl (get_map hx1422) TI33 rfl (fun h => absurd h (by decide)) (ltn rfl)) rfl ?_
            refine VL.yield (vals := [.int .i64 i1359, .agg #[.int .i64 x1422.f0, .string x1422.f1]]) hLl1325 rfl rfl rfl rfl (ltn rfl) 0 rfl rfl ?_
            refine VC.region ?_
            refine VL.sG (o_alloc Z33 ZL33 (ltn rfl)) rfl ?_
            intro g1425
            refine VL.step1 (o_store 0 2 rfl rfl rfl TI33 (.agg (.of rfl)) rfl (len rfl)) rfl ?_
            refine VL.done ?_
            refine VN.begin 0 hLl1325.base rfl rfl rfl ?_
            refine VC.block ?_
            refine VC.seq ?_
            refine VC.region ?_
            refine VL.va (op_fieldAddr FI33_0 rfl (add_at _ _ _) (ltn rfl)) rfl ?_
            refine VL.va (op_load 0 1 rfl rfl TI3 rfl (by decide) (ltn rfl)) rfl ?_
            refine VL.va (op_load 3 1 rfl rfl TI3 rfl (by decide) (ltn rfl)) rfl ?_
            refine VL.letter ((x1422.f0 == a1)) fun b1426 hb1426 => ?_
            refine VL.va (op_cmp rfl rfl (congrArg some hb1426) (ltn rfl)) rfl ?_
            refine VL.done ?_
            refine VN.then ?_
            by_cases c1427 : x1422.f0 = a1
            · rw [if_pos c1427] at h
              obtain rfl : b1426 = true := hb1426.symm.trans (beq_iff_eq.2 c1427)
              refine VC.cond_t rfl ?_
              refine VC.seq ?_
              refine VC.region ?_
              refine VL.va (op_fieldAddr FI33_1 rfl (add_at _ _ _) (ltn rfl)) rfl ?_
              refine VL.va (op_load 0 1 rfl rfl TI9 rfl (by decide) (ltn rfl)) rfl ?_
              refine VL.step1 (o_store 2 1 rfl rfl rfl TI9 (.c rfl) rfl (len rfl)) rfl ?_
              refine VL.step1 (o_store 1 1 rfl rfl rfl TI28 (.c rfl) rfl (len rfl)) rfl ?_
              refine VL.done ?_
              refine VN.then ?_
              refine VC.ret ?_
              refine VR.block ?_
              refine VR.endRound 0 hLl1325.base rfl rfl rfl ?_
              refine VL.va (op_not rfl rfl (ltn rfl)) rfl ?_
              refine VL.done ?_
              refine VN.then ?_
              refine VC.cond_t rfl ?_
              refine VC.ret ?_
              refine VR.block ?_
              refine VR.then ?_
              refine VR.then ?_
              refine VR.block ?_
              refine VR.endRFj 0 rfl rfl rfl rfl ?_
              refine VC.ret ?_
              refine VR.block ?_
              refine VR.then ?_
              simp only [Option.some.injEq, Prod.mk.injEq] at h
              obtain ⟨rfl, rfl⟩ := h
              refine VR.mark 0 hDD1324 rfl rfl rfl ?_
              exact VR.fn (rs := [.cell 4 9, .cell 5 28]) [] [] [] rfl (.cell 2 rfl rfl TI9 (fun _ => rfl) (.cell 1 rfl rfl TI28 (fun _ => rfl) .nil)) ⟨rfl, rfl, rfl⟩ trivial rfl (by decide)
            · rw [if_neg c1427] at h
              obtain rfl : b1426 = false := hb1426.symm.trans (beq_eq_false_iff_ne.2 c1427)
              refine VC.cond_f rfl ?_
              refine VC.skip ?_
              refine VN.block ?_
              refine VN.endRound 0 hLl1325.base rfl rfl rfl ?_
              refine VL.va (op_not rfl rfl (ltn rfl)) rfl ?_
              refine VL.done ?_
              refine VN.then ?_
              refine VC.cond_f rfl ?_
              refine VC.skip ?_
              refine VN.block ?_
              refine VN.then ?_
              refine VC.region ?_
              refine VL.va (op_move rfl (ltn rfl)) rfl ?_
              refine VL.va (op_ari64 rfl rfl rfl (ltn rfl)) rfl ?_
              refine VL.va (op_assign rfl (ltn rfl)) rfl ?_
              refine VL.done ?_
              refine VN.again [1, 2, 3, 4] [] (ihl0 (wrap64 (i1359 - 1)) h) ⟨rfl, ⟨rfl, rfl, rfl, trivial⟩, ⟨⟨0, rfl⟩, ⟨1, rfl⟩, ⟨2, rfl⟩, ⟨3, rfl⟩, ⟨4, rfl⟩, ⟨5, rfl⟩, trivial⟩, rfl, by decide, rfl, by decide⟩
          · rw [if_neg c1421] at h; cases h
        · rw [if_neg c1399] at h
          obtain rfl : b1398 = false := hb1398.symm.trans (decide_eq_false c1399)
          refine VC.cond_f rfl ?_
          refine VC.exit ?_
          refine VX.then ?_
          refine VX.then ?_
          refine VX.hit ?_
          refine VN.endRF 0 rfl rfl rfl rfl ?_
          refine VN.block ?_
          refine VN.then ?_
          refine VC.seq ?_
          refine VC.region ?_
          refine VL.va (op_fieldAddr FI25_0 rfl (add_at _ _ _) (ltn rfl)) rfl ?_
          refine VL.va (op_load 3 1 rfl rfl TI22 rfl (by decide) (ltn rfl)) rfl ?_
          refine VL.va (op_load 2 1 rfl rfl TI3 rfl (by decide) (ltn rfl)) rfl ?_
          by_cases c1428 : 0 ≤ a1
          · rw [if_pos c1428] at h
            replace h := Option.bind_eq_some_iff.1 h
            obtain ⟨x1429, hx1429, h⟩ := h
            refine VL.open (m := l0_0.length) 2 lenm rfl (pos_get hx1429) ?_
            rintro ad1430 n1431 rfl
            refine VL.va (op_indexAddr Try.underlying22 TI9 rfl rfl c1428 (lt_get c1428 hx1429) rfl (ltn rfl)) rfl ?_
            refine VL.va (op_load_row (sz := 1) (o := 0) 2 a1.toNat 1 rfl rfl (get_map hx1429) TI9 rfl (by decide) (ltn rfl)) rfl ?_
            refine VL.step1 (o_store 1 1 rfl rfl rfl TI9 (.c rfl) rfl (len rfl)) rfl ?_
            refine VL.step1 (o_store 0 1 rfl rfl rfl TI28 (.c rfl) rfl (len rfl)) rfl ?_
            refine VL.done ?_
            refine VN.then ?_
            refine VC.ret ?_
            simp only [Option.some.injEq, Prod.mk.injEq] at h
            obtain ⟨rfl, rfl⟩ := h
            refine VR.mark 0 hDD1324 rfl rfl rfl ?_
            exact VR.fn (rs := [.cell 4 9, .cell 5 28]) [] [] [] rfl (.cell 1 rfl rfl TI9 (fun _ => rfl) (.cell 0 rfl rfl TI28 (fun _ => rfl) .nil)) ⟨rfl, rfl, rfl⟩ trivial rfl (by decide)
          · rw [if_neg c1428] at h; cases h
  · rw [if_neg c1307] at h
    obtain rfl := Bool.eq_false_iff.2 c1307
    refine VL.va (op_not rfl rfl (ltn rfl)) rfl ?_
    refine VL.va (op_assign rfl (ltn rfl)) rfl ?_
    refine VL.done ?_
    refine VN.then ?_
    refine VC.cond_t rfl ?_
    refine VC.seq ?_
    refine VC.region ?_
    refine VL.step1 (o_store 1 1 rfl rfl rfl TI9 (.c rfl) rfl (len rfl)) rfl ?_
    refine VL.step1 (o_store 0 1 rfl rfl rfl TI28 (.c rfl) rfl (len rfl)) rfl ?_
    refine VL.done ?_
    refine VN.then ?_
    refine VC.ret ?_
    refine VR.block ?_
    refine VR.then ?_
    simp only [Option.some.injEq, Prod.mk.injEq] at h
    obtain ⟨rfl, rfl⟩ := h
    refine VR.m0 ?_
    exact VR.fn (rs := [.cell 4 9, .cell 5 28]) [] [] [] rfl (.cell 1 rfl rfl TI9 (fun _ => rfl) (.cell 0 rfl rfl TI28 (fun _ => rfl) .nil)) ⟨rfl, rfl, rfl⟩ trivial rfl (by decide)
set_option maxHeartbeats 4000000 in
set_option maxRecDepth 100000 in
theorem tarrylaw03_alive.ok (k : Nat)   (r1 : Bool) (h : tarrylaw03_alive.f k = some r1) :
    VCalls Try.prog 8 [] [] (fun v G own => v = .bool r1 ∧ G = [] ∧ own = []) := by
  refine VCalls.intro Try.func8 rfl (len rfl) fun E hC hW hD hU => ?_
  unfold tarrylaw03_alive.f at h
  refine VC.seq ?_
  refine VC.region ?_
  refine VL.va (op_assign rfl (ltn rfl)) rfl ?_
  refine VL.done ?_
  refine VN.then ?_
  refine VC.seq ?_
  refine VC.region ?_
  replace h := Option.bind_eq_some_iff.1 h
  obtain ⟨⟨r762, r763, t764⟩, hA765, h⟩ := h
  dsimp only at h
  refine VL.sC (o_call0 FO9 (disk_New.ok 2 r762 r763 t764 hA765) rfl rfl (ltn rfl) (All_of .nil)) rfl ?_
  rintro _ _ _ ⟨v767, v769, rfl, rfl, rfl⟩
  refine VL.va (op_move rfl (ltn rfl)) rfl ?_
  refine VL.va (op_extract rfl rfl (ltn rfl)) rfl ?_
  refine VL.va (op_extract rfl rfl (ltn rfl)) rfl ?_
  refine VL.sG (o_alloc Z25 ZL25 (ltn rfl)) rfl ?_
  intro g770
  refine VL.step1 (o_store 0 2 rfl rfl rfl TI25 (.agg (.r 0 rfl (.r 1 rfl .nil))) rfl (len rfl)) rfl ?_
  refine VL.va (op_assign rfl (ltn rfl)) rfl ?_
  refine VL.done ?_
  refine VN.then ?_
  replace h := Option.bind_eq_some_iff.1 h
  obtain ⟨r771, hA772, h⟩ := h
  replace h := Option.bind_eq_some_iff.1 h
  obtain ⟨⟨r773, r774, t775⟩, hA776, h⟩ := h
  dsimp only at h
  refine VC.freezeRow' 0 rfl ?_
  refine VC.freezeRow' 0 rfl ?_
  refine VC.join2 (fun (v778 : Value) (v780 : Value) => ⟨51, [(0, .bool false), (1, .pointer (some ⟨g770, 0, none⟩)), (2, .int .i64 t764), (3, .int .i64 t775)], [.row v778 1 (r773.map enc_str), .row v780 2 (r774.map enc32)], [(g770, 25, [v778, v780])], []⟩) (fun (v778 : Value) (v780 : Value) => True) ?_ ?_
  · refine VC.drawB ⟨0, [], [], [], []⟩ [6] ⟨0, [], [], [(g770, 25, [v767, v769])], []⟩ (by kernel_rfl) rfl (by kernel_rfl) (n := 8) (listed := LB 8 0) ?_
    refine VB.vb (i := 0) (listed' := LB 8 1) rfl (op_load 0 2 rfl rfl TI25 rfl (fun h => absurd h (by decide)) (ltn rfl)) rfl (by kernel_rfl) (by kernel_rfl) (by kernel_rfl) (by kernel_rfl) (by kernel_rfl) (by kernel_rfl) (PartP.on ⟨trivial, trivial, trivial⟩ ⟨trivial, ⟨⟨0, rfl⟩, trivial⟩, trivial⟩) (fun _ _ _ h => h) ?_
    refine VB.oneC (i := 1) (listed' := LB 8 3) (by kernel_rfl) rfl (o_call0 FO14 (strings_Repeat.ok (⟨#[97]⟩ : ByteArray) 64 r771 hA772) rfl rfl (ltn rfl) (All_of .nil)) rfl (by kernel_rfl) ?_
    rintro _ _ _ ⟨rfl, rfl, rfl⟩
    refine ⟨(PartP.on ⟨trivial, trivial, trivial⟩ ⟨trivial, ⟨⟨0, rfl⟩, trivial⟩, trivial⟩), ?_⟩
    refine VB.oneC (i := 2) (listed' := LB 8 7) (by kernel_rfl) rfl (o_call0 FO10 (disk_Put.ok k r762 r763 1 r771 v767 v769 r773 r774 t775 hA776) rfl rfl (ltn rfl) (All_of (.cons (List.mem_of_getElem? (i := 1) rfl) (.cons (List.mem_of_getElem? (i := 0) rfl) .nil)))) rfl (by kernel_rfl) ?_
    rintro _ _ _ ⟨v778, v780, rfl, rfl, rfl⟩
    refine ⟨(PartP.on ⟨trivial, trivial, trivial⟩ ⟨trivial, ⟨⟨0, rfl⟩, trivial⟩, trivial⟩), ?_⟩
    refine VB.more ⟨0, [], [.row v778 1 (r773.map enc_str), .row v780 2 (r774.map enc32)], [], []⟩ ⟨trivial, trivial, trivial⟩ ?_
    refine VB.va (i := 3) (listed' := LB 8 15) rfl (op_move rfl (ltn rfl)) rfl (by kernel_rfl) (by kernel_rfl) (by kernel_rfl) (by kernel_rfl) (by decide) (PartP.on ⟨⟨⟨0, rfl⟩, ⟨1, rfl⟩, trivial⟩, trivial, trivial⟩ ⟨trivial, ⟨⟨0, rfl⟩, trivial⟩, trivial⟩) (fun _ _ _ h => h) ?_
    refine VB.va (i := 4) (listed' := LB 8 31) rfl (op_extract rfl rfl (ltn rfl)) rfl (by kernel_rfl) (by kernel_rfl) (by kernel_rfl) (by kernel_rfl) (by decide) (PartP.on ⟨⟨⟨0, rfl⟩, ⟨1, rfl⟩, trivial⟩, trivial, trivial⟩ ⟨trivial, ⟨⟨0, rfl⟩, trivial⟩, trivial⟩) (fun _ _ _ h => h) ?_
    refine VB.va (i := 5) (listed' := LB 8 63) rfl (op_extract rfl rfl (ltn rfl)) rfl (by kernel_rfl) (by kernel_rfl) (by kernel_rfl) (by kernel_rfl) (by decide) (PartP.on ⟨⟨⟨0, rfl⟩, ⟨1, rfl⟩, trivial⟩, trivial, trivial⟩ ⟨trivial, ⟨⟨0, rfl⟩, trivial⟩, trivial⟩) (fun _ _ _ h => h) ?_
    refine VB.one1 (i := 6) (listed' := LB 8 127) (by kernel_rfl) rfl (o_store 0 2 rfl rfl rfl TI25 (.agg (.f 0 rfl (.f 1 rfl .nil))) rfl (len rfl)) rfl (by kernel_rfl) (PartP.off (by kernel_rfl) ⟨⟨⟨0, rfl⟩, ⟨1, rfl⟩, trivial⟩, trivial, trivial⟩) ?_
    refine VB.va (i := 7) (listed' := LB 8 255) rfl (op_assign rfl (ltn rfl)) rfl (by kernel_rfl) (by kernel_rfl) (by kernel_rfl) (by kernel_rfl) (by decide) (PartP.off (by kernel_rfl) ⟨⟨⟨0, rfl⟩, ⟨1, rfl⟩, trivial⟩, trivial, trivial⟩) (fun _ _ _ h => h) ?_
    refine VB.done (by kernel_rfl) ?_
    exact VN.meet2 v778 v780 [0] [] trivial ⟨rfl, ⟨rfl, rfl, rfl, rfl, trivial⟩, ⟨⟨0, rfl⟩, ⟨1, rfl⟩, trivial⟩, rfl, by decide, rfl, by decide⟩
  intro v778 v780 _
  refine VC.seq ?_
  refine VC.region ?_
  refine VL.va (op_load 0 2 rfl rfl TI25 rfl (fun h => absurd h (by decide)) (ltn rfl)) rfl ?_
  replace h := Option.bind_eq_some_iff.1 h
  obtain ⟨⟨r1275, r1276, t1277⟩, hA1278, h⟩ := h
  dsimp only at h
  refine VL.sC (o_call0 FO7 (disk_Crash.ok k r773 r774 0 3 v778 v780 r1275 r1276 t1277 hA1278) rfl rfl (ltn rfl) (All_of (.cons (List.mem_of_getElem? (i := 0) rfl) (.cons (List.mem_of_getElem? (i := 1) rfl) .nil)))) rfl ?_
  rintro _ _ _ ⟨v1280, v1282, rfl, rfl, rfl⟩
  refine VL.va (op_move rfl (ltn rfl)) rfl ?_
  refine VL.va (op_extract rfl rfl (ltn rfl)) rfl ?_
  refine VL.va (op_extract rfl rfl (ltn rfl)) rfl ?_
  refine VL.step1 (o_store 0 2 rfl rfl rfl TI25 (.agg (.r 0 rfl (.r 1 rfl .nil))) rfl (len rfl)) rfl ?_
  refine VL.va (op_assign rfl (ltn rfl)) rfl ?_
  refine VL.done ?_
  refine VN.then ?_
  refine VC.seq ?_
  refine VC.region ?_
  refine VL.va (op_load 0 2 rfl rfl TI25 rfl (fun h => absurd h (by decide)) (ltn rfl)) rfl ?_
  replace h := Option.bind_eq_some_iff.1 h
  obtain ⟨⟨t1432, t1433⟩, hA1434, h⟩ := h
  dsimp only at h
  refine VL.sC (o_call_b0 FO11 (disk_Get.ok k r1275 r1276 1 v1280 v1282 t1432 t1433 hA1434) rfl rfl (ltn rfl) (All_of (.cons (.inr (.inl ⟨_, List.mem_of_getElem? (i := 0) rfl, rfl⟩)) (.cons (.inr (.inl ⟨_, List.mem_of_getElem? (i := 1) rfl, rfl⟩)) .nil))) (by rintro _ _ _ ⟨rfl, rfl, rfl⟩; rfl)) rfl ?_
  rintro _ _ _ ⟨rfl, rfl, rfl⟩
  refine VL.va (op_move rfl (ltn rfl)) rfl ?_
  refine VL.va (op_extract rfl rfl (ltn rfl)) rfl ?_
  refine VL.va (op_extract rfl rfl (ltn rfl)) rfl ?_
  refine VL.va (op_assign rfl (ltn rfl)) rfl ?_
  refine VL.va (op_assign rfl (ltn rfl)) rfl ?_
  refine VL.done ?_
  refine VN.then ?_
  refine VC.seq ?_
  refine VC.region ?_
  refine VL.va (op_move rfl (ltn rfl)) rfl ?_
  refine VL.letter ((t764 == 0)) fun b1447 hb1447 => ?_
  refine VL.va (op_cmp rfl rfl (congrArg some hb1447) (ltn rfl)) rfl ?_
  refine VL.va (op_move rfl (ltn rfl)) rfl ?_
  by_cases c1448 : t764 = 0
  · rw [if_pos c1448] at h
    obtain rfl : b1447 = true := hb1447.symm.trans (beq_iff_eq.2 c1448)
    refine VL.va (op_move rfl (ltn rfl)) rfl ?_
    refine VL.letter ((t775 == 0)) fun b1449 hb1449 => ?_
    refine VL.va (op_cmp rfl rfl (congrArg some hb1449) (ltn rfl)) rfl ?_
    refine VL.va (op_pick rfl rfl (ltn rfl)) rfl ?_
    refine VL.va (op_move rfl (ltn rfl)) rfl ?_
    by_cases c1450 : t775 = 0
    · rw [if_pos c1450] at h
      obtain rfl : b1449 = true := hb1449.symm.trans (beq_iff_eq.2 c1450)
      refine VL.va (op_move rfl (ltn rfl)) rfl ?_
      refine VL.letter ((t1277 == 0)) fun b1451 hb1451 => ?_
      refine VL.va (op_cmp rfl rfl (congrArg some hb1451) (ltn rfl)) rfl ?_
      refine VL.va (op_pick rfl rfl (ltn rfl)) rfl ?_
      refine VL.va (op_move rfl (ltn rfl)) rfl ?_
      by_cases c1452 : t1277 = 0
      · rw [if_pos c1452] at h
        obtain rfl : b1451 = true := hb1451.symm.trans (beq_iff_eq.2 c1452)
        refine VL.va (op_move rfl (ltn rfl)) rfl ?_
        refine VL.letter ((t1433 == 0)) fun b1453 hb1453 => ?_
        refine VL.va (op_cmp rfl rfl (congrArg some hb1453) (ltn rfl)) rfl ?_
        refine VL.va (op_pick rfl rfl (ltn rfl)) rfl ?_
        refine VL.va (op_move rfl (ltn rfl)) rfl ?_
        by_cases c1454 : t1433 = 0
        · rw [if_pos c1454] at h
          obtain rfl : b1453 = true := hb1453.symm.trans (beq_iff_eq.2 c1454)
          refine VL.va (op_move rfl (ltn rfl)) rfl ?_
          refine VL.va (op_lens Try.underlying9 rfl (ltn rfl)) rfl ?_
          refine VL.letter (((t1432.size : Int) == 64)) fun b1455 hb1455 => ?_
          refine VL.va (op_cmp rfl rfl (congrArg some hb1455) (ltn rfl)) rfl ?_
          refine VL.va (op_pick rfl rfl (ltn rfl)) rfl ?_
          refine VL.va (op_move rfl (ltn rfl)) rfl ?_
          by_cases c1456 : (t1432.size : Int) = 64
          · rw [if_pos c1456] at h
            obtain rfl : b1455 = true := hb1455.symm.trans (beq_iff_eq.2 c1456)
            refine VL.va (op_move rfl (ltn rfl)) rfl ?_
            by_cases c1457 : 4 ≤ (t1432.size : Int)
            · rw [if_pos c1457] at h
              refine VL.va (op_sliceS 0 4 Try.underlying9 rfl ⟨rfl, ⟨_, _, rfl, (by decide), rfl⟩, by omega, by omega⟩ rfl (ltn rfl)) rfl ?_
              refine VL.letter (((t1432.extract 0 4) == (⟨#[97, 97, 97, 0]⟩ : ByteArray))) fun b1458 hb1458 => ?_
              refine VL.va (op_cmps rfl rfl (congrArg some hb1458) (ltn rfl)) rfl ?_
              refine VL.va (op_pick rfl rfl (ltn rfl)) rfl ?_
              refine VL.va (op_assign rfl (ltn rfl)) rfl ?_
              refine VL.done ?_
              refine VN.then ?_
              refine VC.ret ?_
              obtain rfl := Option.some.inj h
              subst hb1458
              exact VR.fn (rs := [.tmp 0]) [] [] [] rfl (.tmp rfl .nil) ⟨rfl, rfl, rfl⟩ trivial rfl (by decide)
            · rw [if_neg c1457] at h; cases h
          · rw [if_neg c1456] at h
            obtain rfl : b1455 = false := hb1455.symm.trans (beq_eq_false_iff_ne.2 c1456)
            refine VL.un rfl rfl (ltn rfl) ?_
            refine VL.un rfl rfl (ltn rfl) ?_
            refine VL.un rfl rfl (ltn rfl) ?_
            refine VL.va (op_pick rfl rfl (ltn rfl)) rfl ?_
            refine VL.va (op_assign rfl (ltn rfl)) rfl ?_
            refine VL.done ?_
            refine VN.then ?_
            refine VC.ret ?_
            obtain rfl := Option.some.inj h
            exact VR.fn (rs := [.tmp 0]) [] [] [] rfl (.tmp rfl .nil) ⟨rfl, rfl, rfl⟩ trivial rfl (by decide)
        · rw [if_neg c1454] at h
          obtain rfl : b1453 = false := hb1453.symm.trans (beq_eq_false_iff_ne.2 c1454)
          refine VL.un rfl rfl (ltn rfl) ?_
          refine VL.un rfl rfl (ltn rfl) ?_
          refine VL.un rfl rfl (ltn rfl) ?_
          refine VL.va (op_pick rfl rfl (ltn rfl)) rfl ?_
          refine VL.va (op_move rfl (ltn rfl)) rfl ?_
          refine VL.un rfl rfl (ltn rfl) ?_
          refine VL.un rfl rfl (ltn rfl) ?_
          refine VL.un rfl rfl (ltn rfl) ?_
          refine VL.va (op_pick rfl rfl (ltn rfl)) rfl ?_
          refine VL.va (op_assign rfl (ltn rfl)) rfl ?_
          refine VL.done ?_
          refine VN.then ?_
          refine VC.ret ?_
          obtain rfl := Option.some.inj h
          exact VR.fn (rs := [.tmp 0]) [] [] [] rfl (.tmp rfl .nil) ⟨rfl, rfl, rfl⟩ trivial rfl (by decide)
      · rw [if_neg c1452] at h
        obtain rfl : b1451 = false := hb1451.symm.trans (beq_eq_false_iff_ne.2 c1452)
        refine VL.un rfl rfl (ltn rfl) ?_
        refine VL.un rfl rfl (ltn rfl) ?_
        refine VL.va (op_pick rfl rfl (ltn rfl)) rfl ?_
        refine VL.va (op_move rfl (ltn rfl)) rfl ?_
        refine VL.un rfl rfl (ltn rfl) ?_
        refine VL.un rfl rfl (ltn rfl) ?_
        refine VL.un rfl rfl (ltn rfl) ?_
        refine VL.va (op_pick rfl rfl (ltn rfl)) rfl ?_
        refine VL.va (op_move rfl (ltn rfl)) rfl ?_
        refine VL.un rfl rfl (ltn rfl) ?_
        refine VL.un rfl rfl (ltn rfl) ?_
        refine VL.un rfl rfl (ltn rfl) ?_
        refine VL.va (op_pick rfl rfl (ltn rfl)) rfl ?_
        refine VL.va (op_assign rfl (ltn rfl)) rfl ?_
        refine VL.done ?_
        refine VN.then ?_
        refine VC.ret ?_
        obtain rfl := Option.some.inj h
        exact VR.fn (rs := [.tmp 0]) [] [] [] rfl (.tmp rfl .nil) ⟨rfl, rfl, rfl⟩ trivial rfl (by decide)
    · rw [if_neg c1450] at h
      obtain rfl : b1449 = false := hb1449.symm.trans (beq_eq_false_iff_ne.2 c1450)
      refine VL.un rfl rfl (ltn rfl) ?_
      refine VL.un rfl rfl (ltn rfl) ?_
      refine VL.va (op_pick rfl rfl (ltn rfl)) rfl ?_
      refine VL.va (op_move rfl (ltn rfl)) rfl ?_
      refine VL.un rfl rfl (ltn rfl) ?_
      refine VL.un rfl rfl (ltn rfl) ?_
      refine VL.va (op_pick rfl rfl (ltn rfl)) rfl ?_
      refine VL.va (op_move rfl (ltn rfl)) rfl ?_
      refine VL.un rfl rfl (ltn rfl) ?_
      refine VL.un rfl rfl (ltn rfl) ?_
      refine VL.un rfl rfl (ltn rfl) ?_
      refine VL.va (op_pick rfl rfl (ltn rfl)) rfl ?_
      refine VL.va (op_move rfl (ltn rfl)) rfl ?_
      refine VL.un rfl rfl (ltn rfl) ?_
      refine VL.un rfl rfl (ltn rfl) ?_
      refine VL.un rfl rfl (ltn rfl) ?_
      refine VL.va (op_pick rfl rfl (ltn rfl)) rfl ?_
      refine VL.va (op_assign rfl (ltn rfl)) rfl ?_
      refine VL.done ?_
      refine VN.then ?_
      refine VC.ret ?_
      obtain rfl := Option.some.inj h
      exact VR.fn (rs := [.tmp 0]) [] [] [] rfl (.tmp rfl .nil) ⟨rfl, rfl, rfl⟩ trivial rfl (by decide)
  · rw [if_neg c1448] at h
    obtain rfl : b1447 = false := hb1447.symm.trans (beq_eq_false_iff_ne.2 c1448)
    refine VL.un rfl rfl (ltn rfl) ?_
    refine VL.un rfl rfl (ltn rfl) ?_
    refine VL.va (op_pick rfl rfl (ltn rfl)) rfl ?_
    refine VL.va (op_move rfl (ltn rfl)) rfl ?_
    refine VL.un rfl rfl (ltn rfl) ?_
    refine VL.un rfl rfl (ltn rfl) ?_
    refine VL.va (op_pick rfl rfl (ltn rfl)) rfl ?_
    refine VL.va (op_move rfl (ltn rfl)) rfl ?_
    refine VL.un rfl rfl (ltn rfl) ?_
    refine VL.un rfl rfl (ltn rfl) ?_
    refine VL.va (op_pick rfl rfl (ltn rfl)) rfl ?_
    refine VL.va (op_move rfl (ltn rfl)) rfl ?_
    refine VL.un rfl rfl (ltn rfl) ?_
    refine VL.un rfl rfl (ltn rfl) ?_
    refine VL.un rfl rfl (ltn rfl) ?_
    refine VL.va (op_pick rfl rfl (ltn rfl)) rfl ?_
    refine VL.va (op_move rfl (ltn rfl)) rfl ?_
    refine VL.un rfl rfl (ltn rfl) ?_
    refine VL.un rfl rfl (ltn rfl) ?_
    refine VL.un rfl rfl (ltn rfl) ?_
    refine VL.va (op_pick rfl rfl (ltn rfl)) rfl ?_
    refine VL.va (op_assign rfl (ltn rfl)) rfl ?_
    refine VL.done ?_
    refine VN.then ?_
    refine VC.ret ?_
    obtain rfl := Option.some.inj h
    exact VR.fn (rs := [.tmp 0]) [] [] [] rfl (.tmp rfl .nil) ⟨rfl, rfl, rfl⟩ trivial rfl (by decide)
set_option maxHeartbeats 4000000 in
set_option maxRecDepth 100000 in
theorem disk_Flush.ok (k : Nat) (l0_0 : List ByteArray) (l0_1 : List S32) (v0_0 : Value) (v0_1 : Value) (r1 : List ByteArray) (r2 : List S32) (r3 : Int) (h : disk_Flush.f k l0_0 l0_1 = some (r1, r2, r3)) :
    VCalls Try.prog 12 [.agg #[v0_0, v0_1]] [.row v0_0 1 (l0_0.map enc_str), .row v0_1 2 (l0_1.map enc32)] (fun v G own => ∃ w0 w1 : Value, v = .tuple #[.agg #[w0, w1], .int .i64 r3] ∧ G = [] ∧ own = [(w0, 9, 1, r1.map enc_str), (w1, 33, 2, r2.map enc32)]) := by
  refine VCalls.intro Try.func12 rfl (len rfl) fun E hC hW hD hU => ?_
  unfold disk_Flush.f at h
  refine VC.seq ?_
  refine VC.region ?_
  refine VL.sG (o_box rfl (.agg (.f 0 rfl (.f 1 rfl .nil))) (ltn rfl)) rfl ?_
  intro g1468
  refine VL.sG (o_alloc Z25 ZL25 (ltn rfl)) rfl ?_
  intro g1469
  refine VL.va (op_assign rfl (ltn rfl)) rfl ?_
  refine VL.done ?_
  refine VN.then ?_
  refine VC.seq ?_
  refine VC.region ?_
  refine VL.va (op_load 1 2 rfl rfl TI25 rfl (fun h => absurd h (by decide)) (ltn rfl)) rfl ?_
  replace h := Option.bind_eq_some_iff.1 h
  obtain ⟨⟨r1470, r1471, t1472⟩, hA1473, h⟩ := h
  dsimp only at h
  refine VL.sC (o_call0 FO7 (disk_Crash.ok k l0_0 l0_1 18446744073709551615 0 v0_0 v0_1 r1470 r1471 t1472 hA1473) rfl rfl (ltn rfl) (All_of (.cons (List.mem_of_getElem? (i := 0) rfl) (.cons (List.mem_of_getElem? (i := 1) rfl) .nil)))) rfl ?_
  rintro _ _ _ ⟨v1475, v1477, rfl, rfl, rfl⟩
  refine VL.va (op_extract rfl rfl (ltn rfl)) rfl ?_
  refine VL.va (op_extract rfl rfl (ltn rfl)) rfl ?_
  refine VL.step1 (o_store 0 2 rfl rfl rfl TI25 (.agg (.r 0 rfl (.r 1 rfl .nil))) rfl (len rfl)) rfl ?_
  refine VL.va (op_assign rfl (ltn rfl)) rfl ?_
  refine VL.done ?_
  refine VN.then ?_
  refine VC.ret ?_
  simp only [Option.some.injEq, Prod.mk.injEq] at h
  obtain ⟨rfl, rfl, rfl⟩ := h
  exact VR.fn (rs := [.cell 2 25, .tmp 3]) [] [(v1475, 9, 1, r1470.map enc_str), (v1477, 33, 2, r1471.map enc32)] [0, 1] rfl (.cell 0 rfl rfl TI25 (fun h => absurd h (by decide)) (.tmp rfl .nil)) ⟨v1475, v1477, rfl, rfl, rfl⟩ trivial rfl (by decide)

end Go.Proofs.Ytlfkendmepdbkaa.PDiskReads
