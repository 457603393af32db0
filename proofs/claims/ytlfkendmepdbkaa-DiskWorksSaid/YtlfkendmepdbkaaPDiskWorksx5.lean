/- Written by a program of this repo: what the program's functions do, each as a Lean function, shown of the loaded code; or a statement's row over that; no condition of its own. -/
import Derived.Test.YtlfkendmepdbkaaPDiskWorksx4
namespace Go.Proofs.Ytlfkendmepdbkaa.PDiskWorks
open Go Go.RowKit Go.Proofs.YtlfkendmepdbkaaV
set_option linter.unusedVariables false
set_option linter.unusedSimpArgs false

set_option maxHeartbeats 4000000 in
set_option maxRecDepth 100000 in
theorem tarryref03_Crash.ok (k : Nat) (l0_0 : List ByteArray) (l0_1 : List S32) (a1 : Int) (a2 : Int) (v0_0 : Value) (v0_1 : Value) (r1 : List ByteArray) (r2 : List S32) (h : tarryref03_Crash.f k l0_0 l0_1 a1 a2 = some (r1, r2)) :
    VCalls Try.prog 17 [.agg #[v0_0, v0_1], .int .u64 a1, .int .i64 a2] [.row v0_0 1 (l0_0.map enc_str), .row v0_1 2 (l0_1.map enc32)] (fun v G own => ∃ w0 w1 : Value, v = .agg #[w0, w1] ∧ G = [.row w0 1 (r1.map enc_str)] ∧ own = [(w1, 33, 2, r2.map enc32)]) := by
  refine VCalls.intro Try.func17 rfl (len rfl) fun E hC hW hD hU => ?_
  unfold tarryref03_Crash.f at h
  refine VC.seq ?_
  refine VC.region ?_
  refine VL.sG (o_box rfl (.agg (.f 0 rfl (.f 1 rfl .nil))) (ltn rfl)) rfl ?_
  intro g2745
  refine VL.sG (o_alloc Z25 ZL25 (ltn rfl)) rfl ?_
  intro g2746
  refine VL.done ?_
  refine VN.then ?_
  refine VC.seq ?_
  refine VC.region ?_
  refine VL.va (op_fieldAddr FI25_0 rfl (add_at _ _ _) (ltn rfl)) rfl ?_
  refine VL.va (op_load 1 1 rfl rfl TI22 rfl (by decide) (ltn rfl)) rfl ?_
  refine VL.va (op_assign rfl (ltn rfl)) rfl ?_
  refine VL.done ?_
  refine VN.then ?_
  refine VC.seq ?_
  refine VC.region ?_
  refine VL.va (op_assign rfl (ltn rfl)) rfl ?_
  refine VL.done ?_
  refine VN.then ?_
  refine VC.join3 (fun (v3118 : Value) (l3119 : List ByteArray) (i3120 : Int) => ⟨66, [(2, .int .i64 a2), (3, .pointer (some ⟨g2745, 0, none⟩)), (6, .pointer (some ⟨g2746, 0, none⟩)), (7, v3118), (8, .int .i64 i3120)], [.row v3118 1 (l3119.map enc_str), .row v0_0 1 (l0_0.map enc_str), .row v0_1 2 (l0_1.map enc32)], [(g2746, 25, [.slice none 0 0, .slice none 0 0]), (g2745, 25, [v0_0, v0_1])], []⟩) (fun (v3118 : Value) (l3119 : List ByteArray) (i3120 : Int) => tarryref03_Crash.j2 k a2 l0_1 l3119 i3120 = some (r1, r2)) ?_ ?_
  · refine VC.seq ?_
    refine VC.region ?_
    refine VL.va (op_fieldAddr FI25_1 rfl (add_at _ _ _) (ltn rfl)) rfl ?_
    refine VL.va (op_load 1 1 rfl rfl TI23 rfl (by decide) (ltn rfl)) rfl ?_
    refine VL.va (op_len (m := l0_1.length) 1 lenm Try.underlying23 rfl rfl (ltn rfl)) rfl ?_
    refine VL.va (op_move rfl (ltn rfl)) rfl ?_
    refine VL.done ?_
    refine VN.then ?_
    refine VC.block ?_
    refine VC.loop4 (fun (v3059 : Value) (l3060 : List ByteArray) (i3061 : Int) (i3062 : Int) => ⟨66, [(1, .int .u64 a1), (2, .int .i64 a2), (3, .pointer (some ⟨g2745, 0, none⟩)), (6, .pointer (some ⟨g2746, 0, none⟩)), (7, v3059), (8, .int .i64 i3061), (15, v0_1), (16, .int .i64 (l0_1.length : Int)), (17, .int .i64 i3062)], [.row v3059 1 (l3060.map enc_str), .row v0_1 2 (l0_1.map enc32), .row v0_0 1 (l0_0.map enc_str)], [(g2746, 25, [.slice none 0 0, .slice none 0 0]), (g2745, 25, [v0_0, v0_1])], []⟩) (fun (ml3 : Nat) (v3059 : Value) (l3060 : List ByteArray) (i3061 : Int) (i3062 : Int) => tarryref03_Crash.l3 k a1 a2 l0_1 ml3 l3060 i3061 i3062 = some (r1, r2)) k v0_0 l0_0 (-1) 0 [0, 1] [] h ⟨rfl, ⟨rfl, rfl, rfl, rfl, rfl, rfl, rfl, rfl, rfl, trivial⟩, ⟨⟨0, rfl⟩, ⟨1, rfl⟩, ⟨0, rfl⟩, trivial⟩, rfl, by decide, rfl, by decide⟩ (by intros; simp [tarryref03_Crash.l3]) ?_
    clear h
    intro ml3 ihl3 v3059 l3060 i3061 i3062 h
    simp only [tarryref03_Crash.l3] at h
    refine VC.seq ?_
    refine VC.region ?_
    refine VL.letter (decide (i3062 < (l0_1.length : Int))) fun b3090 hb3090 => ?_
    refine VL.va (op_cmp rfl rfl (congrArg some hb3090) (ltn rfl)) rfl ?_
    refine VL.done ?_
    refine VN.then ?_
    refine VC.seq ?_
    by_cases c3092 : i3062 < (l0_1.length : Int)
    · rw [if_pos c3092] at h
      obtain rfl : b3090 = true := hb3090.symm.trans (decide_eq_true c3092)
      refine VC.cond_t rfl ?_
      refine VC.skip ?_
      refine VN.then ?_
      refine VC.seq ?_
      refine VC.block ?_
      refine VC.seq ?_
      refine VC.region ?_
      refine VL.va (op_move rfl (ltn rfl)) rfl ?_
      by_cases c3105 : 0 ≤ i3062
      · rw [if_pos c3105] at h
        replace h := Option.bind_eq_some_iff.1 h
        obtain ⟨x3106, hx3106, h⟩ := h
        refine VL.open (m := l0_1.length) 1 lenm rfl (pos_get hx3106) ?_
        rintro ad3107 n3108 rfl
        refine VL.va (op_indexAddr Try.underlying23 TI33 rfl rfl c3105 (lt_get c3105 hx3106) rfl (ltn rfl)) rfl ?_
        refine VL.va (op_load_row (sz := 2) (o := 0) 1 i3062.toNat 2 rfl rfl (get_map hx3106) TI33 rfl (fun h => absurd h (by decide)) (ltn rfl)) rfl ?_
        refine VL.sG (o_alloc Z33 ZL33 (ltn rfl)) rfl ?_
        intro g3109
        refine VL.va (op_assign rfl (ltn rfl)) rfl ?_
        refine VL.step1 (o_store 0 2 rfl rfl rfl TI33 (.agg (.of rfl)) rfl (len rfl)) rfl ?_
        refine VL.done ?_
        refine VN.then ?_
        refine VC.seq ?_
        refine VC.region ?_
        refine VL.va (op_move rfl (ltn rfl)) rfl ?_
        refine VL.va (op_move rfl (ltn rfl)) rfl ?_
        replace h := Option.bind_eq_some_iff.1 h
        obtain ⟨t3110, hA3111, h⟩ := h
        refine VL.sC (o_call0 FO33 (tarryref03_Kept.ok k a1 i3062 t3110 hA3111) rfl rfl (ltn rfl) (All_of .nil)) rfl ?_
        rintro _ _ _ ⟨rfl, rfl, rfl⟩
        refine VL.done ?_
        refine VN.then ?_
        by_cases c3112 : t3110 = true
        · rw [if_pos c3112] at h
          obtain rfl := c3112
          refine VC.cond_t rfl ?_
          refine VC.region ?_
          refine VL.va (op_move rfl (ltn rfl)) rfl ?_
          refine VL.va (op_fieldAddr FI33_0 rfl (add_at _ _ _) (ltn rfl)) rfl ?_
          refine VL.va (op_load 0 1 rfl rfl TI3 rfl (by decide) (ltn rfl)) rfl ?_
          refine VL.va (op_fieldAddr FI33_1 rfl (add_at _ _ _) (ltn rfl)) rfl ?_
          refine VL.va (op_load 0 1 rfl rfl TI9 rfl (by decide) (ltn rfl)) rfl ?_
          replace h := Option.bind_eq_some_iff.1 h
          obtain ⟨r3113, hA3114, h⟩ := h
          refine VL.sC (o_call0 FO34 (tarryref03_Set.ok l3060 x3106.f0 x3106.f1 v3059 r3113 hA3114) rfl rfl (ltn rfl) (All_of (.cons (List.mem_of_getElem? (i := 0) rfl) .nil))) rfl ?_
          rintro v3116 _ _ ⟨_, rfl, rfl, rfl⟩
          refine VL.va (op_assign rfl (ltn rfl)) rfl ?_
          refine VL.done ?_
          refine VN.block ?_
          refine VN.then ?_
          refine VC.region ?_
          refine VL.va (op_ari64 rfl rfl rfl (ltn rfl)) rfl ?_
          refine VL.va (op_move rfl (ltn rfl)) rfl ?_
          refine VL.done ?_
          refine VN.freezeRow' 0 rfl ?_
          refine VN.again [1, 2] [] (ihl3 v3116 r3113 i3061 (wrap64 (i3062 + 1)) h) ⟨rfl, ⟨rfl, rfl, rfl, rfl, rfl, rfl, rfl, rfl, rfl, trivial⟩, ⟨⟨0, rfl⟩, ⟨2, rfl⟩, ⟨3, rfl⟩, trivial⟩, rfl, by decide, rfl, by decide⟩
        · rw [if_neg c3112] at h
          obtain rfl := Bool.eq_false_iff.2 c3112
          refine VC.cond_f rfl ?_
          refine VC.region ?_
          refine VL.va (op_move rfl (ltn rfl)) rfl ?_
          refine VL.va (op_assign rfl (ltn rfl)) rfl ?_
          refine VL.done ?_
          refine VN.block ?_
          refine VN.then ?_
          refine VC.region ?_
          refine VL.va (op_ari64 rfl rfl rfl (ltn rfl)) rfl ?_
          refine VL.va (op_move rfl (ltn rfl)) rfl ?_
          refine VL.done ?_
          refine VN.again [1, 2] [] (ihl3 v3059 l3060 i3062 (wrap64 (i3062 + 1)) h) ⟨rfl, ⟨rfl, rfl, rfl, rfl, rfl, rfl, rfl, rfl, rfl, trivial⟩, ⟨⟨0, rfl⟩, ⟨1, rfl⟩, ⟨2, rfl⟩, trivial⟩, rfl, by decide, rfl, by decide⟩
      · rw [if_neg c3105] at h; cases h
    · rw [if_neg c3092] at h
      obtain rfl : b3090 = false := hb3090.symm.trans (decide_eq_false c3092)
      refine VC.cond_f rfl ?_
      refine VC.exit ?_
      refine VX.then ?_
      refine VX.then ?_
      refine VX.hit ?_
      refine VN.meet3 v3059 l3060 i3061 [0, 1] [] h ⟨rfl, ⟨rfl, rfl, rfl, rfl, rfl, trivial⟩, ⟨⟨0, rfl⟩, ⟨2, rfl⟩, ⟨1, rfl⟩, trivial⟩, rfl, by decide, rfl, by decide⟩
  clear h
  intro v3118 l3119 i3120 h
  unfold tarryref03_Crash.j2 at h
  refine VC.seq ?_
  refine VC.seq ?_
  refine VC.region ?_
  refine VL.va (op_move rfl (ltn rfl)) rfl ?_
  refine VL.letter (decide (i3120 ≥ 0)) fun b3154 hb3154 => ?_
  refine VL.va (op_cmp rfl rfl (congrArg some hb3154) (ltn rfl)) rfl ?_
  refine VL.va (op_move rfl (ltn rfl)) rfl ?_
  by_cases c3155 : i3120 ≥ 0
  · rw [if_pos c3155] at h
    obtain rfl : b3154 = true := hb3154.symm.trans (decide_eq_true c3155)
    refine VL.va (op_move rfl (ltn rfl)) rfl ?_
    refine VL.letter (decide (a2 > 0)) fun b3156 hb3156 => ?_
    refine VL.va (op_cmp rfl rfl (congrArg some hb3156) (ltn rfl)) rfl ?_
    refine VL.va (op_pick rfl rfl (ltn rfl)) rfl ?_
    refine VL.va (op_move rfl (ltn rfl)) rfl ?_
    by_cases c3157 : a2 > 0
    · rw [if_pos c3157] at h
      obtain rfl : b3156 = true := hb3156.symm.trans (decide_eq_true c3157)
      refine VL.va (op_move rfl (ltn rfl)) rfl ?_
      refine VL.letter (decide (a2 < 64)) fun b3158 hb3158 => ?_
      refine VL.va (op_cmp rfl rfl (congrArg some hb3158) (ltn rfl)) rfl ?_
      refine VL.va (op_pick rfl rfl (ltn rfl)) rfl ?_
      refine VL.done ?_
      refine VN.then ?_
      by_cases c3159 : a2 < 64
      · rw [if_pos c3159] at h
        obtain rfl : b3158 = true := hb3158.symm.trans (decide_eq_true c3159)
        refine VC.cond_t rfl ?_
        refine VC.seq ?_
        refine VC.region ?_
        refine VL.va (op_fieldAddr FI25_1 rfl (add_at _ _ _) (ltn rfl)) rfl ?_
        refine VL.va (op_load 1 1 rfl rfl TI23 rfl (by decide) (ltn rfl)) rfl ?_
        refine VL.va (op_move rfl (ltn rfl)) rfl ?_
        by_cases c3160 : 0 ≤ i3120
        · rw [if_pos c3160] at h
          replace h := Option.bind_eq_some_iff.1 h
          obtain ⟨x3161, hx3161, h⟩ := h
          refine VL.open (m := l0_1.length) 2 lenm rfl (pos_get hx3161) ?_
          rintro ad3162 n3163 rfl
          refine VL.va (op_indexAddr Try.underlying23 TI33 rfl rfl c3160 (lt_get c3160 hx3161) rfl (ltn rfl)) rfl ?_
          refine VL.va (op_load_row (sz := 2) (o := 0) 2 i3120.toNat 2 rfl rfl (get_map hx3161) TI33 rfl (fun h => absurd h (by decide)) (ltn rfl)) rfl ?_
          refine VL.sG (o_alloc Z33 ZL33 (ltn rfl)) rfl ?_
          intro g3164
          refine VL.step1 (o_store 0 2 rfl rfl rfl TI33 (.agg (.of rfl)) rfl (len rfl)) rfl ?_
          refine VL.done ?_
          refine VN.then ?_
          by_cases c3165 : 0 ≤ a2
          · rw [if_pos c3165] at h
            by_cases c3166 : a2 ≤ (x3161.f1.size : Int)
            · rw [if_pos c3166] at h
              by_cases c3167 : 0 ≤ x3161.f0
              · rw [if_pos c3167] at h
                replace h := Option.bind_eq_some_iff.1 h
                obtain ⟨x3168, hx3168, h⟩ := h
                by_cases c3169 : a2 ≤ (x3168.size : Int)
                · rw [if_pos c3169] at h
                  by_cases c3170 : (x3161.f1.extract 0 a2.toNat).size + (x3168.extract a2.toNat x3168.size).size ≤ 9223372036854775807
                  · rw [if_pos c3170] at h
                    replace h := Option.bind_eq_some_iff.1 h
                    obtain ⟨r3171, hA3172, h⟩ := h
                    refine VC.open (m := l3119.length) 0 lenm rfl (pos_get hx3168) ?_
                    rintro ad3141 n3142 rfl
                    refine VC.stop1 (fun (v3174 : Value) => ⟨66, [(6, .pointer (some ⟨g2746, 0, none⟩)), (7, v3174)], [], [(g2746, 25, [.slice none 0 0, .slice none 0 0])], [(v3174, 9, 1, r3171.map enc_str)]⟩) (fun (v3174 : Value) => True) ?_ ?_
                    · refine VC.draw ⟨0, [], [.row (.slice (some ad3141) l3119.length n3142) 1 (l3119.map enc_str)], [(g3164, 33, [.int .i64 x3161.f0, .string x3161.f1])], []⟩ (by kernel_rfl) rfl (by kernel_rfl) (n := 17) (listed := LB 17 0) ?_
                      refine VA.va (i := 0) (listed' := LB 17 1) rfl (op_move rfl (ltn rfl)) rfl (by kernel_rfl) (by kernel_rfl) (by kernel_rfl) (by kernel_rfl) ⟨⟨⟨0, rfl⟩, trivial⟩, ⟨⟨0, rfl⟩, trivial⟩, trivial⟩ (fun _ _ _ h => h) ?_
                      refine VA.va (i := 1) (listed' := LB 17 3) rfl (op_fieldAddr FI33_0 rfl (add_at _ _ _) (ltn rfl)) rfl (by kernel_rfl) (by kernel_rfl) (by kernel_rfl) (by kernel_rfl) ⟨⟨⟨0, rfl⟩, trivial⟩, ⟨⟨0, rfl⟩, trivial⟩, trivial⟩ (fun _ _ _ h => h) ?_
                      refine VA.va (i := 2) (listed' := LB 17 7) rfl (op_load 0 1 rfl rfl TI3 rfl (by decide) (ltn rfl)) rfl (by kernel_rfl) (by kernel_rfl) (by kernel_rfl) (by kernel_rfl) ⟨⟨⟨0, rfl⟩, trivial⟩, ⟨⟨0, rfl⟩, trivial⟩, trivial⟩ (fun _ _ _ h => h) ?_
                      refine VA.va (i := 3) (listed' := LB 17 15) rfl (op_fieldAddr FI33_1 rfl (add_at _ _ _) (ltn rfl)) rfl (by kernel_rfl) (by kernel_rfl) (by kernel_rfl) (by kernel_rfl) ⟨⟨⟨0, rfl⟩, trivial⟩, ⟨⟨0, rfl⟩, trivial⟩, trivial⟩ (fun _ _ _ h => h) ?_
                      refine VA.va (i := 4) (listed' := LB 17 31) rfl (op_load 0 1 rfl rfl TI9 rfl (by decide) (ltn rfl)) rfl (by kernel_rfl) (by kernel_rfl) (by kernel_rfl) (by kernel_rfl) ⟨⟨⟨0, rfl⟩, trivial⟩, ⟨⟨0, rfl⟩, trivial⟩, trivial⟩ (fun _ _ _ h => h) ?_
                      refine VA.va (i := 5) (listed' := LB 17 63) rfl (op_move rfl (ltn rfl)) rfl (by kernel_rfl) (by kernel_rfl) (by kernel_rfl) (by kernel_rfl) ⟨⟨⟨0, rfl⟩, trivial⟩, ⟨⟨0, rfl⟩, trivial⟩, trivial⟩ (fun _ _ _ h => h) ?_
                      refine VA.va (i := 6) (listed' := LB 17 127) rfl (op_sliceS 0 a2.toNat Try.underlying9 rfl ⟨rfl, ⟨_, _, rfl, c3165, rfl⟩, by omega, by omega⟩ rfl (ltn rfl)) rfl (by kernel_rfl) (by kernel_rfl) (by kernel_rfl) (by kernel_rfl) ⟨⟨⟨0, rfl⟩, trivial⟩, ⟨⟨0, rfl⟩, trivial⟩, trivial⟩ (fun _ _ _ h => h) ?_
                      refine VA.va (i := 7) (listed' := LB 17 255) rfl (op_move rfl (ltn rfl)) rfl (by kernel_rfl) (by kernel_rfl) (by kernel_rfl) (by kernel_rfl) ⟨⟨⟨0, rfl⟩, trivial⟩, ⟨⟨0, rfl⟩, trivial⟩, trivial⟩ (fun _ _ _ h => h) ?_
                      refine VA.va (i := 8) (listed' := LB 17 511) rfl (op_fieldAddr FI33_0 rfl (add_at _ _ _) (ltn rfl)) rfl (by kernel_rfl) (by kernel_rfl) (by kernel_rfl) (by kernel_rfl) ⟨⟨⟨0, rfl⟩, trivial⟩, ⟨⟨0, rfl⟩, trivial⟩, trivial⟩ (fun _ _ _ h => h) ?_
                      refine VA.va (i := 9) (listed' := LB 17 1023) rfl (op_load 0 1 rfl rfl TI3 rfl (by decide) (ltn rfl)) rfl (by kernel_rfl) (by kernel_rfl) (by kernel_rfl) (by kernel_rfl) ⟨⟨⟨0, rfl⟩, trivial⟩, ⟨⟨0, rfl⟩, trivial⟩, trivial⟩ (fun _ _ _ h => h) ?_
                      refine VA.va (i := 10) (listed' := LB 17 2047) rfl (op_indexAddr Try.underlying22 TI9 rfl rfl c3167 (lt_get c3167 hx3168) rfl (ltn rfl)) rfl (by kernel_rfl) (by kernel_rfl) (by kernel_rfl) (by kernel_rfl) ⟨⟨⟨0, rfl⟩, trivial⟩, ⟨⟨0, rfl⟩, trivial⟩, trivial⟩ (fun _ _ _ h => h) ?_
                      refine VA.va (i := 11) (listed' := LB 17 4095) rfl (op_load_row (sz := 1) (o := 0) 0 x3161.f0.toNat 1 rfl rfl (get_map hx3168) TI9 rfl (by decide) (ltn rfl)) rfl (by kernel_rfl) (by kernel_rfl) (by kernel_rfl) (by kernel_rfl) ⟨⟨⟨0, rfl⟩, trivial⟩, ⟨⟨0, rfl⟩, trivial⟩, trivial⟩ (fun _ _ _ h => h) ?_
                      refine VA.va (i := 12) (listed' := LB 17 8191) rfl (op_move rfl (ltn rfl)) rfl (by kernel_rfl) (by kernel_rfl) (by kernel_rfl) (by kernel_rfl) ⟨⟨⟨0, rfl⟩, trivial⟩, ⟨⟨0, rfl⟩, trivial⟩, trivial⟩ (fun _ _ _ h => h) ?_
                      refine VA.va (i := 13) (listed' := LB 17 16383) rfl (op_sliceS a2.toNat x3168.size Try.underlying9 rfl ⟨⟨_, _, rfl, c3165, rfl⟩, rfl, by omega, by omega⟩ rfl (ltn rfl)) rfl (by kernel_rfl) (by kernel_rfl) (by kernel_rfl) (by kernel_rfl) ⟨⟨⟨0, rfl⟩, trivial⟩, ⟨⟨0, rfl⟩, trivial⟩, trivial⟩ (fun _ _ _ h => h) ?_
                      refine VA.va (i := 14) (listed' := LB 17 32767) rfl (op_adds rfl rfl rfl c3170 (ltn rfl)) rfl (by kernel_rfl) (by kernel_rfl) (by kernel_rfl) (by kernel_rfl) ⟨⟨⟨0, rfl⟩, trivial⟩, ⟨⟨0, rfl⟩, trivial⟩, trivial⟩ (fun _ _ _ h => h) ?_
                      refine VA.oneC (i := 15) (listed' := LB 17 65535) (by kernel_rfl) rfl (o_call0 FO34 (tarryref03_Set.ok l3119 x3161.f0 ((x3161.f1.extract 0 a2.toNat) ++ (x3168.extract a2.toNat x3168.size)) (.slice (some ad3141) l3119.length n3142) r3171 hA3172) rfl rfl (ltn rfl) (All_of (.cons (List.mem_of_getElem? (i := 0) rfl) .nil))) rfl (by kernel_rfl) ?_
                      rintro v3174 _ _ ⟨_, rfl, rfl, rfl⟩
                      refine ⟨⟨⟨⟨0, rfl⟩, trivial⟩, ⟨⟨0, rfl⟩, trivial⟩, trivial⟩, ?_⟩
                      refine VA.more ⟨0, [], [.row (.slice (some ad3141) l3119.length n3142) 1 (l3119.map enc_str)], [(g3164, 33, [.int .i64 x3161.f0, .string x3161.f1])], [(v3174, 9, 1, r3171.map enc_str)]⟩ ⟨⟨⟨0, rfl⟩, trivial⟩, ⟨⟨0, rfl⟩, trivial⟩, trivial⟩ ?_
                      refine VA.va (i := 16) (listed' := LB 17 131071) rfl (op_assign rfl (ltn rfl)) rfl (by kernel_rfl) (by kernel_rfl) (by kernel_rfl) (by kernel_rfl) ⟨⟨⟨0, rfl⟩, trivial⟩, ⟨⟨0, rfl⟩, trivial⟩, ⟨⟨0, rfl⟩, trivial⟩⟩ (fun _ _ _ h => h) ?_
                      refine VA.done (by kernel_rfl) ?_
                      exact VN.meet1 v3174 [1] [0] trivial ⟨rfl, ⟨rfl, rfl, trivial⟩, trivial, rfl, by decide, rfl, by decide⟩
                    intro v3174 _
                    refine VN.then ?_
                    refine VC.seq ?_
                    refine VC.region ?_
                    refine VL.va (op_move rfl (ltn rfl)) rfl ?_
                    refine VL.va (op_build (vals := [(0, v3174)]) (vcs := [(0, [v3174])]) (cells := [v3174, .slice none 0 0]) SI25 rfl (.cons ⟨rfl, (.r 0 rfl)⟩ .nil) (by kernel_rfl) (ltn rfl)) rfl ?_
                    refine VL.step1 (o_store 0 2 rfl rfl rfl TI25 (.agg (.r 0 rfl (.c rfl .nil))) rfl (len rfl)) rfl ?_
                    refine VL.done ?_
                    refine VN.then ?_
                    refine VC.ret ?_
                    simp only [Option.some.injEq, Prod.mk.injEq] at h
                    obtain ⟨rfl, rfl⟩ := h
                    refine VR.freezeRow' 0 rfl ?_
                    refine VR.nilRow' 33 2 ?_
                    exact VR.fn (rs := [.cell 6 25]) [.row v3174 1 (r3171.map enc_str)] [((.slice none 0 0), 33, 2, ([] : List S32).map enc32)] [0] rfl (.cell 0 rfl rfl TI25 (fun h => absurd h (by decide)) .nil) ⟨v3174, (.slice none 0 0), rfl, rfl, rfl⟩ ⟨⟨0, rfl⟩, trivial⟩ rfl (by decide)
                  · rw [if_neg c3170] at h; cases h
                · rw [if_neg c3169] at h; cases h
              · rw [if_neg c3167] at h; cases h
            · rw [if_neg c3166] at h; cases h
          · rw [if_neg c3165] at h; cases h
        · rw [if_neg c3160] at h; cases h
      · rw [if_neg c3159] at h
        obtain rfl : b3158 = false := hb3158.symm.trans (decide_eq_false c3159)
        refine VC.cond_f rfl ?_
        refine VC.skip ?_
        refine VN.then ?_
        refine VC.seq ?_
        refine VC.region ?_
        refine VL.va (op_move rfl (ltn rfl)) rfl ?_
        refine VL.va (op_build (vals := [(0, v3118)]) (vcs := [(0, [v3118])]) (cells := [v3118, .slice none 0 0]) SI25 rfl (.cons ⟨rfl, (.f 0 rfl)⟩ .nil) (by kernel_rfl) (ltn rfl)) rfl ?_
        refine VL.step1 (o_store 0 2 rfl rfl rfl TI25 (.agg (.f 0 rfl (.c rfl .nil))) rfl (len rfl)) rfl ?_
        refine VL.done ?_
        refine VN.then ?_
        refine VC.ret ?_
        simp only [Option.some.injEq, Prod.mk.injEq] at h
        obtain ⟨rfl, rfl⟩ := h
        refine VR.nilRow' 33 2 ?_
        exact VR.fn (rs := [.cell 6 25]) [.row v3118 1 (l3119.map enc_str)] [((.slice none 0 0), 33, 2, ([] : List S32).map enc32)] [0] rfl (.cell 0 rfl rfl TI25 (fun h => absurd h (by decide)) .nil) ⟨v3118, (.slice none 0 0), rfl, rfl, rfl⟩ ⟨⟨0, rfl⟩, trivial⟩ rfl (by decide)
    · rw [if_neg c3157] at h
      obtain rfl : b3156 = false := hb3156.symm.trans (decide_eq_false c3157)
      refine VL.un rfl rfl (ltn rfl) ?_
      refine VL.un rfl rfl (ltn rfl) ?_
      refine VL.va (op_pick rfl rfl (ltn rfl)) rfl ?_
      refine VL.done ?_
      refine VN.then ?_
      refine VC.cond_f rfl ?_
      refine VC.skip ?_
      refine VN.then ?_
      refine VC.seq ?_
      refine VC.region ?_
      refine VL.va (op_move rfl (ltn rfl)) rfl ?_
      refine VL.va (op_build (vals := [(0, v3118)]) (vcs := [(0, [v3118])]) (cells := [v3118, .slice none 0 0]) SI25 rfl (.cons ⟨rfl, (.f 0 rfl)⟩ .nil) (by kernel_rfl) (ltn rfl)) rfl ?_
      refine VL.step1 (o_store 0 2 rfl rfl rfl TI25 (.agg (.f 0 rfl (.c rfl .nil))) rfl (len rfl)) rfl ?_
      refine VL.done ?_
      refine VN.then ?_
      refine VC.ret ?_
      simp only [Option.some.injEq, Prod.mk.injEq] at h
      obtain ⟨rfl, rfl⟩ := h
      refine VR.nilRow' 33 2 ?_
      exact VR.fn (rs := [.cell 6 25]) [.row v3118 1 (l3119.map enc_str)] [((.slice none 0 0), 33, 2, ([] : List S32).map enc32)] [0] rfl (.cell 0 rfl rfl TI25 (fun h => absurd h (by decide)) .nil) ⟨v3118, (.slice none 0 0), rfl, rfl, rfl⟩ ⟨⟨0, rfl⟩, trivial⟩ rfl (by decide)
  · rw [if_neg c3155] at h
    obtain rfl : b3154 = false := hb3154.symm.trans (decide_eq_false c3155)
    refine VL.un rfl rfl (ltn rfl) ?_
    refine VL.un rfl rfl (ltn rfl) ?_
    refine VL.va (op_pick rfl rfl (ltn rfl)) rfl ?_
    refine VL.va (op_move rfl (ltn rfl)) rfl ?_
    refine VL.un rfl rfl (ltn rfl) ?_
    refine VL.un rfl rfl (ltn rfl) ?_
    refine VL.va (op_pick rfl rfl (ltn rfl)) rfl ?_
    refine VL.done ?_
    refine VN.then ?_
    refine VC.cond_f rfl ?_
    refine VC.skip ?_
    refine VN.then ?_
    refine VC.seq ?_
    refine VC.region ?_
    refine VL.va (op_move rfl (ltn rfl)) rfl ?_
    refine VL.va (op_build (vals := [(0, v3118)]) (vcs := [(0, [v3118])]) (cells := [v3118, .slice none 0 0]) SI25 rfl (.cons ⟨rfl, (.f 0 rfl)⟩ .nil) (by kernel_rfl) (ltn rfl)) rfl ?_
    refine VL.step1 (o_store 0 2 rfl rfl rfl TI25 (.agg (.f 0 rfl (.c rfl .nil))) rfl (len rfl)) rfl ?_
    refine VL.done ?_
    refine VN.then ?_
    refine VC.ret ?_
    simp only [Option.some.injEq, Prod.mk.injEq] at h
    obtain ⟨rfl, rfl⟩ := h
    refine VR.nilRow' 33 2 ?_
    exact VR.fn (rs := [.cell 6 25]) [.row v3118 1 (l3119.map enc_str)] [((.slice none 0 0), 33, 2, ([] : List S32).map enc32)] [0] rfl (.cell 0 rfl rfl TI25 (fun h => absurd h (by decide)) .nil) ⟨v3118, (.slice none 0 0), rfl, rfl, rfl⟩ ⟨⟨0, rfl⟩, trivial⟩ rfl (by decide)
set_option maxHeartbeats 4000000 in
set_option maxRecDepth 100000 in
theorem tarryref03_Get.ok (k : Nat) (l0_0 : List ByteArray) (l0_1 : List S32) (a1 : Int) (v0_0 : Value) (v0_1 : Value) (r1 : ByteArray) (h : tarryref03_Get.f k l0_0 l0_1 a1 = some r1) :
    VCalls Try.prog 18 [.agg #[v0_0, v0_1], .int .i64 a1] [.row v0_0 1 (l0_0.map enc_str), .row v0_1 2 (l0_1.map enc32)] (fun v G own => v = .string r1 ∧ G = [] ∧ own = []) := by
  refine VCalls.intro Try.func18 rfl (len rfl) fun E hC hW hD hU => ?_
  unfold tarryref03_Get.f at h
  refine VC.seq ?_
  refine VC.region ?_
  refine VL.sG (o_box rfl (.agg (.f 0 rfl (.f 1 rfl .nil))) (ltn rfl)) rfl ?_
  intro g3323
  refine VL.va (op_assign rfl (ltn rfl)) rfl ?_
  refine VL.done ?_
  refine VN.then ?_
  refine VC.seq ?_
  refine VC.region ?_
  refine VL.va (op_fieldAddr FI25_0 rfl (add_at _ _ _) (ltn rfl)) rfl ?_
  refine VL.va (op_load 0 1 rfl rfl TI22 rfl (by decide) (ltn rfl)) rfl ?_
  refine VL.va (op_move rfl (ltn rfl)) rfl ?_
  by_cases c3324 : 0 ≤ a1
  · rw [if_pos c3324] at h
    replace h := Option.bind_eq_some_iff.1 h
    obtain ⟨x3325, hx3325, h⟩ := h
    refine VL.open (m := l0_0.length) 0 lenm rfl (pos_get hx3325) ?_
    rintro ad3326 n3327 rfl
    refine VL.va (op_indexAddr Try.underlying22 TI9 rfl rfl c3324 (lt_get c3324 hx3325) rfl (ltn rfl)) rfl ?_
    refine VL.va (op_load_row (sz := 1) (o := 0) 0 a1.toNat 1 rfl rfl (get_map hx3325) TI9 rfl (by decide) (ltn rfl)) rfl ?_
    refine VL.va (op_assign rfl (ltn rfl)) rfl ?_
    refine VL.done ?_
    refine VN.then ?_
    refine VC.seq ?_
    refine VC.seq ?_
    refine VC.region ?_
    refine VL.va (op_fieldAddr FI25_1 rfl (add_at _ _ _) (ltn rfl)) rfl ?_
    refine VL.va (op_load 0 1 rfl rfl TI23 rfl (by decide) (ltn rfl)) rfl ?_
    refine VL.va (op_len (m := l0_1.length) 1 lenm Try.underlying23 rfl rfl (ltn rfl)) rfl ?_
    refine VL.va (op_move rfl (ltn rfl)) rfl ?_
    refine VL.done ?_
    refine VN.then ?_
    refine VC.block ?_
    refine VC.loop2 (fun (s3394 : ByteArray) (i3395 : Int) => ⟨28, [(1, .int .i64 a1), (4, .string (⟨#[]⟩ : ByteArray)), (5, .string s3394), (14, v0_1), (15, .int .i64 (l0_1.length : Int)), (16, .int .i64 i3395)], [.row v0_1 2 (l0_1.map enc32)], [], []⟩) (fun (ml1 : Nat) (s3394 : ByteArray) (i3395 : Int) => tarryref03_Get.l1 k a1 l0_1 ml1 s3394 i3395 = some r1) k x3325 0 [] [] h ⟨rfl, ⟨rfl, rfl, rfl, rfl, rfl, rfl, trivial⟩, ⟨⟨1, rfl⟩, trivial⟩, rfl, by decide, rfl, by decide⟩ (by intros; simp [tarryref03_Get.l1]) ?_
    clear h
    intro ml1 ihl1 s3394 i3395 h
    simp only [tarryref03_Get.l1] at h
    refine VC.seq ?_
    refine VC.region ?_
    refine VL.letter (decide (i3395 < (l0_1.length : Int))) fun b3413 hb3413 => ?_
    refine VL.va (op_cmp rfl rfl (congrArg some hb3413) (ltn rfl)) rfl ?_
    refine VL.done ?_
    refine VN.then ?_
    refine VC.seq ?_
    by_cases c3415 : i3395 < (l0_1.length : Int)
    · rw [if_pos c3415] at h
      obtain rfl : b3413 = true := hb3413.symm.trans (decide_eq_true c3415)
      refine VC.cond_t rfl ?_
      refine VC.skip ?_
      refine VN.then ?_
      refine VC.seq ?_
      refine VC.block ?_
      refine VC.seq ?_
      refine VC.region ?_
      by_cases c3423 : 0 ≤ i3395
      · rw [if_pos c3423] at h
        replace h := Option.bind_eq_some_iff.1 h
        obtain ⟨x3424, hx3424, h⟩ := h
        refine VL.open (m := l0_1.length) 0 lenm rfl (pos_get hx3424) ?_
        rintro ad3425 n3426 rfl
        refine VL.va (op_indexAddr Try.underlying23 TI33 rfl rfl c3423 (lt_get c3423 hx3424) rfl (ltn rfl)) rfl ?_
        refine VL.va (op_load_row (sz := 2) (o := 0) 0 i3395.toNat 2 rfl rfl (get_map hx3424) TI33 rfl (fun h => absurd h (by decide)) (ltn rfl)) rfl ?_
        refine VL.sG (o_alloc Z33 ZL33 (ltn rfl)) rfl ?_
        intro g3427
        refine VL.step1 (o_store 0 2 rfl rfl rfl TI33 (.agg (.of rfl)) rfl (len rfl)) rfl ?_
        refine VL.done ?_
        refine VN.then ?_
        refine VC.seq ?_
        refine VC.region ?_
        refine VL.va (op_fieldAddr FI33_0 rfl (add_at _ _ _) (ltn rfl)) rfl ?_
        refine VL.va (op_load 0 1 rfl rfl TI3 rfl (by decide) (ltn rfl)) rfl ?_
        refine VL.va (op_move rfl (ltn rfl)) rfl ?_
        refine VL.letter ((x3424.f0 == a1)) fun b3428 hb3428 => ?_
        refine VL.va (op_cmp rfl rfl (congrArg some hb3428) (ltn rfl)) rfl ?_
        refine VL.done ?_
        refine VN.then ?_
        by_cases c3429 : x3424.f0 = a1
        · rw [if_pos c3429] at h
          obtain rfl : b3428 = true := hb3428.symm.trans (beq_iff_eq.2 c3429)
          refine VC.cond_t rfl ?_
          refine VC.region ?_
          refine VL.va (op_fieldAddr FI33_1 rfl (add_at _ _ _) (ltn rfl)) rfl ?_
          refine VL.va (op_load 0 1 rfl rfl TI9 rfl (by decide) (ltn rfl)) rfl ?_
          refine VL.va (op_assign rfl (ltn rfl)) rfl ?_
          refine VL.done ?_
          refine VN.block ?_
          refine VN.then ?_
          refine VC.region ?_
          refine VL.va (op_ari64 rfl rfl rfl (ltn rfl)) rfl ?_
          refine VL.va (op_move rfl (ltn rfl)) rfl ?_
          refine VL.done ?_
          refine VN.again [] [] (ihl1 x3424.f1 (wrap64 (i3395 + 1)) h) ⟨rfl, ⟨rfl, rfl, rfl, rfl, rfl, rfl, trivial⟩, ⟨⟨0, rfl⟩, trivial⟩, rfl, by decide, rfl, by decide⟩
        · rw [if_neg c3429] at h
          obtain rfl : b3428 = false := hb3428.symm.trans (beq_eq_false_iff_ne.2 c3429)
          refine VC.cond_f rfl ?_
          refine VC.skip ?_
          refine VN.block ?_
          refine VN.then ?_
          refine VC.region ?_
          refine VL.va (op_ari64 rfl rfl rfl (ltn rfl)) rfl ?_
          refine VL.va (op_move rfl (ltn rfl)) rfl ?_
          refine VL.done ?_
          refine VN.again [] [] (ihl1 s3394 (wrap64 (i3395 + 1)) h) ⟨rfl, ⟨rfl, rfl, rfl, rfl, rfl, rfl, trivial⟩, ⟨⟨0, rfl⟩, trivial⟩, rfl, by decide, rfl, by decide⟩
      · rw [if_neg c3423] at h; cases h
    · rw [if_neg c3415] at h
      obtain rfl : b3413 = false := hb3413.symm.trans (decide_eq_false c3415)
      refine VC.cond_f rfl ?_
      refine VC.exit ?_
      refine VX.then ?_
      refine VX.then ?_
      refine VX.hit ?_
      refine VN.then ?_
      refine VC.seq ?_
      refine VC.region ?_
      refine VL.va (op_move rfl (ltn rfl)) rfl ?_
      refine VL.va (op_assign rfl (ltn rfl)) rfl ?_
      refine VL.done ?_
      refine VN.then ?_
      refine VC.ret ?_
      obtain rfl := Option.some.inj h
      exact VR.fn (rs := [.tmp 4]) [] [] [] rfl (.tmp rfl .nil) ⟨rfl, rfl, rfl⟩ trivial rfl (by decide)
  · rw [if_neg c3324] at h; cases h

end Go.Proofs.Ytlfkendmepdbkaa.PDiskWorks
