/- Written by a program of this repo: what the program's functions do, each as a Lean function, shown of the loaded code; or a statement's row over that; no condition of its own. -/
import Derived.Test.YtlmpfogfgefngaaGOrderPartsx7
namespace Go.Proofs.Ytlmpfogfgefngaa.GOrderParts
open Go Go.RowKit Go.Proofs.YtlmpfogfgefngaaV Go.Proofs.Ytlmpfogfgefngaa.POrderParts
set_option linter.unusedVariables false
set_option linter.unusedSimpArgs false

set_option maxHeartbeats 4000000 in
set_option maxRecDepth 100000 in
theorem tarrylaw13_OrderParts.ok (k : Nat) (a0 : Int) (a1 : Int) (l2 : List Int) (v2 : Value) (r1 : Bool) (h : tarrylaw13_OrderParts.f k a0 a1 l2 = some r1) :
    VCalls Try.prog 4 [.int .i64 a0, .int .i64 a1, v2] [.row v2 1 (l2.map enc_inti64)] (fun v G own => v = .bool r1 ∧ G = [] ∧ own = []) := by
  refine VCalls.intro Try.func4 rfl (len rfl) fun E hC => ?_
  unfold tarrylaw13_OrderParts.f at h
  refine VC.seq ?_
  refine VC.region ?_
  refine VL.va (op_assign rfl (ltn rfl)) rfl ?_
  refine VL.done ?_
  refine VN.then ?_
  refine VC.seq ?_
  refine VC.region ?_
  refine VL.va (op_move rfl (ltn rfl)) rfl ?_
  refine VL.va (op_rem rfl rfl (by decide) rfl (ltn rfl)) rfl ?_
  refine VL.va (op_ari64 rfl rfl rfl (ltn rfl)) rfl ?_
  refine VL.va (op_rem rfl rfl (by decide) rfl (ltn rfl)) rfl ?_
  refine VL.va (op_ari64 rfl rfl rfl (ltn rfl)) rfl ?_
  refine VL.va (op_move rfl (ltn rfl)) rfl ?_
  refine VL.va (op_rem rfl rfl (by decide) rfl (ltn rfl)) rfl ?_
  refine VL.va (op_ari64 rfl rfl rfl (ltn rfl)) rfl ?_
  refine VL.va (op_rem rfl rfl (by decide) rfl (ltn rfl)) rfl ?_
  refine VL.va (op_ari64 rfl rfl rfl (ltn rfl)) rfl ?_
  refine VL.va (op_assign rfl (ltn rfl)) rfl ?_
  refine VL.va (op_assign rfl (ltn rfl)) rfl ?_
  refine VL.done ?_
  refine VN.then ?_
  refine VC.seq ?_
  refine VC.region ?_
  refine VL.va (op_move rfl (ltn rfl)) rfl ?_
  refine VL.va (op_move rfl (ltn rfl)) rfl ?_
  refine VL.va (op_build (vals := [(0, .int .i64 1), (1, .string (⟨#[99, 117, 112]⟩ : ByteArray)), (3, .int .i64 1), (4, .int .i64 (wrap64 (1 + ((wrap64 ((a0.tmod 40) + 40)).tmod 40)))), (6, .int .i64 (wrap64 (1 + ((wrap64 ((a1.tmod 40) + 40)).tmod 40)))), (7, .int .i64 9), (8, .bool true)]) (vcs := [(0, [.int .i64 1]), (1, [.string (⟨#[99, 117, 112]⟩ : ByteArray)]), (3, [.int .i64 1]), (4, [.int .i64 (wrap64 (1 + ((wrap64 ((a0.tmod 40) + 40)).tmod 40)))]), (6, [.int .i64 (wrap64 (1 + ((wrap64 ((a1.tmod 40) + 40)).tmod 40)))]), (7, [.int .i64 9]), (8, [.bool true])]) (cells := [.int .i64 1, .string (⟨#[99, 117, 112]⟩ : ByteArray), .int .i64 0, .int .i64 1, .int .i64 (wrap64 (1 + ((wrap64 ((a0.tmod 40) + 40)).tmod 40))), .int .i64 0, .int .i64 (wrap64 (1 + ((wrap64 ((a1.tmod 40) + 40)).tmod 40))), .int .i64 9, .bool true, .int .i64 0, .string (⟨#[]⟩ : ByteArray), .int .i64 0, .int .i64 0, .int .i64 0, .int .i64 0, .int .i64 0, .int .i64 0, .int .i64 0, .int .i64 0, .int .i64 0, .bool false]) SI29 rfl (.cons ⟨rfl, (.c rfl)⟩ (.cons ⟨rfl, (.c rfl)⟩ (.cons ⟨rfl, (.c rfl)⟩ (.cons ⟨rfl, (.c rfl)⟩ (.cons ⟨rfl, (.c rfl)⟩ (.cons ⟨rfl, (.c rfl)⟩ (.cons ⟨rfl, (.c rfl)⟩ .nil))))))) (by kernel_rfl) (ltn rfl)) rfl ?_
  replace h := Option.bind_eq_some_iff.1 h
  obtain ⟨⟨t1821, t1822, t1823, t1824, t1825, t1826, t1827, t1828, t1829, t1830, t1831, t1832, t1833, t1834, t1835, t1836, t1837, t1838, t1839, t1840, t1841, t1842⟩, hA1843, h⟩ := h
  dsimp only at h
  refine VL.sC (o_call0 FO8 (order_New.ok k 1 (⟨#[99, 117, 112]⟩ : ByteArray) 0 1 (wrap64 (1 + ((wrap64 ((a0.tmod 40) + 40)).tmod 40))) 0 (wrap64 (1 + ((wrap64 ((a1.tmod 40) + 40)).tmod 40))) 9 true 0 (⟨#[]⟩ : ByteArray) 0 0 0 0 0 0 0 0 0 false 100 t1821 t1822 t1823 t1824 t1825 t1826 t1827 t1828 t1829 t1830 t1831 t1832 t1833 t1834 t1835 t1836 t1837 t1838 t1839 t1840 t1841 t1842 hA1843) rfl rfl (ltn rfl) (All_of .nil)) rfl ?_
  rintro _ _ _ ⟨rfl, rfl, rfl⟩
  refine VL.va (op_move rfl (ltn rfl)) rfl ?_
  refine VL.va (op_extract rfl rfl (ltn rfl)) rfl ?_
  refine VL.va (op_extract rfl rfl (ltn rfl)) rfl ?_
  refine VL.sG (o_alloc (us := [.int .i64 0, .string (⟨#[]⟩ : ByteArray), .int .i64 0, .int .i64 0, .int .i64 0, .int .i64 0, .int .i64 0, .int .i64 0, .bool false, .int .i64 0, .string (⟨#[]⟩ : ByteArray), .int .i64 0, .int .i64 0, .int .i64 0, .int .i64 0, .int .i64 0, .int .i64 0, .int .i64 0, .int .i64 0, .int .i64 0, .bool false]) Z29 rfl (ltn rfl)) rfl ?_
  intro g1844
  refine VL.step1 (o_store 0 21 rfl rfl rfl TI29 (.agg (.c rfl (.c rfl (.c rfl (.c rfl (.c rfl (.c rfl (.c rfl (.c rfl (.c rfl (.c rfl (.c rfl (.c rfl (.c rfl (.c rfl (.c rfl (.c rfl (.c rfl (.c rfl (.c rfl (.c rfl (.c rfl .nil)))))))))))))))))))))) rfl (len rfl)) rfl ?_
  refine VL.va (op_assign rfl (ltn rfl)) rfl ?_
  refine VL.done ?_
  refine VN.then ?_
  refine VC.seq ?_
  refine VC.seq ?_
  refine VC.region ?_
  refine VL.va (op_move rfl (ltn rfl)) rfl ?_
  refine VL.letter ((t1842 != 0)) fun b1847 hb1847 => ?_
  refine VL.va (op_cmp rfl rfl (congrArg some hb1847) (ltn rfl)) rfl ?_
  refine VL.done ?_
  refine VN.then ?_
  by_cases c1848 : t1842 = 0
  · rw [if_pos c1848] at h
    obtain rfl : b1847 = false := hb1847.symm.trans (bne_eq_false_iff_eq.2 c1848)
    refine VC.cond_f rfl ?_
    refine VC.skip ?_
    refine VN.then ?_
    refine VC.seq ?_
    refine VC.region ?_
    refine VL.va (op_assign rfl (ltn rfl)) rfl ?_
    refine VL.done ?_
    refine VN.then ?_
    refine VC.join22 (fun (i6111 : Int) (i6112 : Int) (s6113 : ByteArray) (i6114 : Int) (i6115 : Int) (i6116 : Int) (i6117 : Int) (i6118 : Int) (i6119 : Int) (q6120 : Bool) (i6121 : Int) (s6122 : ByteArray) (i6123 : Int) (i6124 : Int) (i6125 : Int) (i6126 : Int) (i6127 : Int) (i6128 : Int) (i6129 : Int) (i6130 : Int) (i6131 : Int) (q6132 : Bool) => ⟨122, [(0, .int .i64 (wrap64 (1 + ((wrap64 ((a0.tmod 40) + 40)).tmod 40)))), (1, .int .i64 (wrap64 (1 + ((wrap64 ((a1.tmod 40) + 40)).tmod 40)))), (2, v2), (6, .bool false), (7, .pointer (some ⟨g1844, 0, none⟩)), (9, .int .i64 i6111)], [.row v2 1 (l2.map enc_inti64)], [(g1844, 29, [.int .i64 i6112, .string s6113, .int .i64 i6114, .int .i64 i6115, .int .i64 i6116, .int .i64 i6117, .int .i64 i6118, .int .i64 i6119, .bool q6120, .int .i64 i6121, .string s6122, .int .i64 i6123, .int .i64 i6124, .int .i64 i6125, .int .i64 i6126, .int .i64 i6127, .int .i64 i6128, .int .i64 i6129, .int .i64 i6130, .int .i64 i6131, .bool q6132])], []⟩) (fun (i6111 : Int) (i6112 : Int) (s6113 : ByteArray) (i6114 : Int) (i6115 : Int) (i6116 : Int) (i6117 : Int) (i6118 : Int) (i6119 : Int) (q6120 : Bool) (i6121 : Int) (s6122 : ByteArray) (i6123 : Int) (i6124 : Int) (i6125 : Int) (i6126 : Int) (i6127 : Int) (i6128 : Int) (i6129 : Int) (i6130 : Int) (i6131 : Int) (q6132 : Bool) => tarrylaw13_OrderParts.j4 k a0 a1 l2 i6111 i6112 s6113 i6114 i6115 i6116 i6117 i6118 i6119 q6120 i6121 s6122 i6123 i6124 i6125 i6126 i6127 i6128 i6129 i6130 i6131 q6132 = some r1) ?_ ?_
    · refine VC.seq ?_
      refine VC.region ?_
      refine VL.va (op_move rfl (ltn rfl)) rfl ?_
      refine VL.done ?_
      refine VN.then ?_
      refine VC.block ?_
      refine VC.loop23 (fun (i5306 : Int) (i5307 : Int) (i5308 : Int) (s5309 : ByteArray) (i5310 : Int) (i5311 : Int) (i5312 : Int) (i5313 : Int) (i5314 : Int) (i5315 : Int) (q5316 : Bool) (i5317 : Int) (s5318 : ByteArray) (i5319 : Int) (i5320 : Int) (i5321 : Int) (i5322 : Int) (i5323 : Int) (i5324 : Int) (i5325 : Int) (i5326 : Int) (i5327 : Int) (q5328 : Bool) => ⟨122, [(0, .int .i64 (wrap64 (1 + ((wrap64 ((a0.tmod 40) + 40)).tmod 40)))), (1, .int .i64 (wrap64 (1 + ((wrap64 ((a1.tmod 40) + 40)).tmod 40)))), (2, v2), (6, .bool false), (7, .pointer (some ⟨g1844, 0, none⟩)), (9, .int .i64 i5306), (37, .int .i64 i5307)], [.row v2 1 (l2.map enc_inti64)], [(g1844, 29, [.int .i64 i5308, .string s5309, .int .i64 i5310, .int .i64 i5311, .int .i64 i5312, .int .i64 i5313, .int .i64 i5314, .int .i64 i5315, .bool q5316, .int .i64 i5317, .string s5318, .int .i64 i5319, .int .i64 i5320, .int .i64 i5321, .int .i64 i5322, .int .i64 i5323, .int .i64 i5324, .int .i64 i5325, .int .i64 i5326, .int .i64 i5327, .bool q5328])], []⟩) (fun (ml5 : Nat) (i5306 : Int) (i5307 : Int) (i5308 : Int) (s5309 : ByteArray) (i5310 : Int) (i5311 : Int) (i5312 : Int) (i5313 : Int) (i5314 : Int) (i5315 : Int) (q5316 : Bool) (i5317 : Int) (s5318 : ByteArray) (i5319 : Int) (i5320 : Int) (i5321 : Int) (i5322 : Int) (i5323 : Int) (i5324 : Int) (i5325 : Int) (i5326 : Int) (i5327 : Int) (q5328 : Bool) => tarrylaw13_OrderParts.l5 k a0 a1 l2 ml5 i5306 i5307 i5308 s5309 i5310 i5311 i5312 i5313 i5314 i5315 q5316 i5317 s5318 i5319 i5320 i5321 i5322 i5323 i5324 i5325 i5326 i5327 q5328 = some r1) k 0 0 t1821 t1822 t1823 t1824 t1825 t1826 t1827 t1828 t1829 t1830 t1831 t1832 t1833 t1834 t1835 t1836 t1837 t1838 t1839 t1840 t1841 [0] [] h ⟨rfl, ⟨rfl, rfl, rfl, rfl, rfl, rfl, rfl, trivial⟩, ⟨⟨0, rfl⟩, trivial⟩, rfl, by decide, rfl, by decide⟩ (by intros; simp [tarrylaw13_OrderParts.l5]) ?_
      clear h
      intro ml5 ihl5 i5306 i5307 i5308 s5309 i5310 i5311 i5312 i5313 i5314 i5315 q5316 i5317 s5318 i5319 i5320 i5321 i5322 i5323 i5324 i5325 i5326 i5327 q5328 h
      simp only [tarrylaw13_OrderParts.l5] at h
      refine VC.seq ?_
      refine VC.region ?_
      refine VL.letter (decide (i5307 < 60)) fun b5720 hb5720 => ?_
      refine VL.va (op_cmp rfl rfl (congrArg some hb5720) (ltn rfl)) rfl ?_
      refine VL.done ?_
      refine VN.then ?_
      refine VC.seq ?_
      by_cases c5722 : i5307 < 60
      · rw [if_pos c5722] at h
        obtain rfl : b5720 = true := hb5720.symm.trans (decide_eq_true c5722)
        refine VC.cond_t rfl ?_
        refine VC.skip ?_
        refine VN.then ?_
        refine VC.seq ?_
        refine VC.block ?_
        refine VC.seq ?_
        refine VC.region ?_
        refine VL.va (op_move rfl (ltn rfl)) rfl ?_
        refine VL.va (op_assign rfl (ltn rfl)) rfl ?_
        refine VL.done ?_
        refine VN.then ?_
        refine VC.seq ?_
        refine VC.region ?_
        refine VL.va (op_assign rfl (ltn rfl)) rfl ?_
        refine VL.done ?_
        refine VN.then ?_
        refine VC.seq ?_
        refine VC.seq ?_
        refine VC.region ?_
        refine VL.va (op_move rfl (ltn rfl)) rfl ?_
        refine VL.va (op_move rfl (ltn rfl)) rfl ?_
        refine VL.va (op_len (m := l2.length) 0 lenm Try.underlying42 rfl rfl (ltn rfl)) rfl ?_
        refine VL.letter (decide (i5307 < (l2.length : Int))) fun b5923 hb5923 => ?_
        refine VL.va (op_cmp rfl rfl (congrArg some hb5923) (ltn rfl)) rfl ?_
        refine VL.done ?_
        refine VN.then ?_
        by_cases c5924 : i5307 < (l2.length : Int)
        · rw [if_pos c5924] at h
          obtain rfl : b5923 = true := hb5923.symm.trans (decide_eq_true c5924)
          refine VC.cond_t rfl ?_
          refine VC.region ?_
          refine VL.va (op_move rfl (ltn rfl)) rfl ?_
          refine VL.va (op_move rfl (ltn rfl)) rfl ?_
          by_cases c5925 : 0 ≤ i5307
          · rw [if_pos c5925] at h
            replace h := Option.bind_eq_some_iff.1 h
            obtain ⟨x5926, hx5926, h⟩ := h
            refine VL.open (m := l2.length) 0 lenm rfl (pos_get hx5926) ?_
            rintro ad5927 n5928 rfl
            refine VL.va (op_indexAddr Try.underlying42 TI3 rfl rfl c5925 (lt_get c5925 hx5926) rfl (ltn rfl)) rfl ?_
            refine VL.va (op_load_row (o := 0) 0 i5307.toNat 1 rfl rfl (get_map hx5926) TI3 rfl (by decide) (ltn rfl)) rfl ?_
            refine VL.va (op_rem rfl rfl (by decide) rfl (ltn rfl)) rfl ?_
            refine VL.va (op_ari64 rfl rfl rfl (ltn rfl)) rfl ?_
            refine VL.va (op_rem rfl rfl (by decide) rfl (ltn rfl)) rfl ?_
            refine VL.va (op_assign rfl (ltn rfl)) rfl ?_
            refine VL.done ?_
            refine VN.then ?_
            refine VC.seq ?_
            refine VC.region ?_
            refine VL.va (op_load 0 21 rfl rfl TI29 rfl (fun h => absurd h (by decide)) (ltn rfl)) rfl ?_
            refine VL.va (op_move rfl (ltn rfl)) rfl ?_
            replace h := Option.bind_eq_some_iff.1 h
            obtain ⟨t5929, hA5930, h⟩ := h
            refine VL.sC (o_call0 FO15 (order_Wants.ok k i5308 s5309 i5310 i5311 i5312 i5313 i5314 i5315 q5316 i5317 s5318 i5319 i5320 i5321 i5322 i5323 i5324 i5325 i5326 i5327 q5328 ((wrap64 ((x5926.tmod 9) + 9)).tmod 9) 5 t5929 hA5930) rfl rfl (ltn rfl) (All_of .nil)) rfl ?_
            rintro _ _ _ ⟨rfl, rfl, rfl⟩
            refine VL.va (op_assign rfl (ltn rfl)) rfl ?_
            refine VL.done ?_
            refine VN.then ?_
            refine VC.seq ?_
            refine VC.seq ?_
            refine VC.region ?_
            refine VL.va (op_move rfl (ltn rfl)) rfl ?_
            refine VL.va (op_move rfl (ltn rfl)) rfl ?_
            refine VL.va (op_load 0 21 rfl rfl TI29 rfl (fun h => absurd h (by decide)) (ltn rfl)) rfl ?_
            replace h := Option.bind_eq_some_iff.1 h
            obtain ⟨t5935, hA5936, h⟩ := h
            refine VL.sC (o_call0 FO13 (order_Lack.ok k i5308 s5309 i5310 i5311 i5312 i5313 i5314 i5315 q5316 i5317 s5318 i5319 i5320 i5321 i5322 i5323 i5324 i5325 i5326 i5327 q5328 t5935 hA5936) rfl rfl (ltn rfl) (All_of .nil)) rfl ?_
            rintro _ _ _ ⟨rfl, rfl, rfl⟩
            refine VL.va (op_min rfl rfl (ltn rfl)) rfl ?_
            refine VL.letter ((t5929 != (mn ((wrap64 ((x5926.tmod 9) + 9)).tmod 9) t5935))) fun b5937 hb5937 => ?_
            refine VL.va (op_cmp rfl rfl (congrArg some hb5937) (ltn rfl)) rfl ?_
            refine VL.done ?_
            refine VN.then ?_
            by_cases c5938 : t5929 = (mn ((wrap64 ((x5926.tmod 9) + 9)).tmod 9) t5935)
            · rw [if_pos c5938] at h
              obtain rfl : b5937 = false := hb5937.symm.trans (bne_eq_false_iff_eq.2 c5938)
              refine VC.cond_f rfl ?_
              refine VC.skip ?_
              refine VN.then ?_
              refine VC.seq ?_
              refine VC.seq ?_
              refine VC.region ?_
              refine VL.va (op_move rfl (ltn rfl)) rfl ?_
              refine VL.letter ((t5929 == 0)) fun b5941 hb5941 => ?_
              refine VL.va (op_cmp rfl rfl (congrArg some hb5941) (ltn rfl)) rfl ?_
              refine VL.done ?_
              refine VN.then ?_
              by_cases c5942 : t5929 = 0
              · rw [if_pos c5942] at h
                obtain rfl : b5941 = true := hb5941.symm.trans (beq_iff_eq.2 c5942)
                refine VC.cond_t rfl ?_
                refine VC.exit ?_
                refine VX.then ?_
                refine VX.hit ?_
                refine VN.then ?_
                refine VC.region ?_
                refine VL.va (op_ari64 rfl rfl rfl (ltn rfl)) rfl ?_
                refine VL.va (op_move rfl (ltn rfl)) rfl ?_
                refine VL.done ?_
                refine VN.again [0] [] (ihl5 i5306 (wrap64 (i5307 + 1)) i5308 s5309 i5310 i5311 i5312 i5313 i5314 i5315 q5316 i5317 s5318 i5319 i5320 i5321 i5322 i5323 i5324 i5325 i5326 i5327 q5328 h) ⟨rfl, ⟨rfl, rfl, rfl, rfl, rfl, rfl, rfl, trivial⟩, ⟨⟨0, rfl⟩, trivial⟩, rfl, by decide, rfl, by decide⟩
              · rw [if_neg c5942] at h
                obtain rfl : b5941 = false := hb5941.symm.trans (beq_eq_false_iff_ne.2 c5942)
                refine VC.cond_f rfl ?_
                refine VC.skip ?_
                refine VN.then ?_
                refine VC.seq ?_
                refine VC.region ?_
                refine VL.va (op_load 0 21 rfl rfl TI29 rfl (fun h => absurd h (by decide)) (ltn rfl)) rfl ?_
                refine VL.va (op_move rfl (ltn rfl)) rfl ?_
                refine VL.va (op_move rfl (ltn rfl)) rfl ?_
                refine VL.va (op_move rfl (ltn rfl)) rfl ?_
                refine VL.va (op_ari64 rfl rfl rfl (ltn rfl)) rfl ?_
                refine VL.va (op_build (vals := [(0, .string (⟨#[99, 117, 112]⟩ : ByteArray)), (1, .int .i64 t5929), (2, .int .i64 t5929), (3, .int .i64 (wrap64 (i5307 + 1)))]) (vcs := [(0, [.string (⟨#[99, 117, 112]⟩ : ByteArray)]), (1, [.int .i64 t5929]), (2, [.int .i64 t5929]), (3, [.int .i64 (wrap64 (i5307 + 1))])]) (cells := [.string (⟨#[99, 117, 112]⟩ : ByteArray), .int .i64 t5929, .int .i64 t5929, .int .i64 (wrap64 (i5307 + 1))]) SI23 rfl (.cons ⟨rfl, (.c rfl)⟩ (.cons ⟨rfl, (.c rfl)⟩ (.cons ⟨rfl, (.c rfl)⟩ (.cons ⟨rfl, (.c rfl)⟩ .nil)))) (by kernel_rfl) (ltn rfl)) rfl ?_
                replace h := Option.bind_eq_some_iff.1 h
                obtain ⟨⟨t5943, t5944, t5945, t5946, t5947, t5948, t5949, t5950, t5951, t5952, t5953, t5954, t5955, t5956, t5957, t5958, t5959, t5960, t5961, t5962, t5963, t5964⟩, hA5965, h⟩ := h
                dsimp only at h
                refine VL.sC (o_call0 FO17 (order_Send.ok k i5308 s5309 i5310 i5311 i5312 i5313 i5314 i5315 q5316 i5317 s5318 i5319 i5320 i5321 i5322 i5323 i5324 i5325 i5326 i5327 q5328 (⟨#[99, 117, 112]⟩ : ByteArray) t5929 t5929 (wrap64 (i5307 + 1)) t5943 t5944 t5945 t5946 t5947 t5948 t5949 t5950 t5951 t5952 t5953 t5954 t5955 t5956 t5957 t5958 t5959 t5960 t5961 t5962 t5963 t5964 hA5965) rfl rfl (ltn rfl) (All_of .nil)) rfl ?_
                rintro _ _ _ ⟨rfl, rfl, rfl⟩
                refine VL.va (op_move rfl (ltn rfl)) rfl ?_
                refine VL.va (op_extract rfl rfl (ltn rfl)) rfl ?_
                refine VL.va (op_extract rfl rfl (ltn rfl)) rfl ?_
                refine VL.sG (o_alloc (us := [.int .i64 0, .string (⟨#[]⟩ : ByteArray), .int .i64 0, .int .i64 0, .int .i64 0, .int .i64 0, .int .i64 0, .int .i64 0, .bool false, .int .i64 0, .string (⟨#[]⟩ : ByteArray), .int .i64 0, .int .i64 0, .int .i64 0, .int .i64 0, .int .i64 0, .int .i64 0, .int .i64 0, .int .i64 0, .int .i64 0, .bool false]) Z29 rfl (ltn rfl)) rfl ?_
                intro g5966
                refine VL.step1 (o_store 0 21 rfl rfl rfl TI29 (.agg (.c rfl (.c rfl (.c rfl (.c rfl (.c rfl (.c rfl (.c rfl (.c rfl (.c rfl (.c rfl (.c rfl (.c rfl (.c rfl (.c rfl (.c rfl (.c rfl (.c rfl (.c rfl (.c rfl (.c rfl (.c rfl .nil)))))))))))))))))))))) rfl (len rfl)) rfl ?_
                refine VL.va (op_assign rfl (ltn rfl)) rfl ?_
                refine VL.done ?_
                refine VN.then ?_
                refine VC.seq ?_
                refine VC.region ?_
                refine VL.va (op_load 0 21 rfl rfl TI29 rfl (fun h => absurd h (by decide)) (ltn rfl)) rfl ?_
                replace h := Option.bind_eq_some_iff.1 h
                obtain ⟨⟨t5967, t5968, t5969, t5970, t5971, t5972, t5973, t5974, t5975, t5976, t5977, t5978, t5979, t5980, t5981, t5982, t5983, t5984, t5985, t5986, t5987, t5988, t5989⟩, hA5990, h⟩ := h
                dsimp only at h
                refine VL.sC (o_call0 FO18 (order_Came.ok k t5943 t5944 t5945 t5946 t5947 t5948 t5949 t5950 t5951 t5952 t5953 t5954 t5955 t5956 t5957 t5958 t5959 t5960 t5961 t5962 t5963 t5967 t5968 t5969 t5970 t5971 t5972 t5973 t5974 t5975 t5976 t5977 t5978 t5979 t5980 t5981 t5982 t5983 t5984 t5985 t5986 t5987 t5988 t5989 hA5990) rfl rfl (ltn rfl) (All_of .nil)) rfl ?_
                rintro _ _ _ ⟨rfl, rfl, rfl⟩
                refine VL.va (op_move rfl (ltn rfl)) rfl ?_
                refine VL.va (op_extract rfl rfl (ltn rfl)) rfl ?_
                refine VL.va (op_extract rfl rfl (ltn rfl)) rfl ?_
                refine VL.va (op_extract rfl rfl (ltn rfl)) rfl ?_
                refine VL.sG (o_alloc (us := [.int .i64 0, .string (⟨#[]⟩ : ByteArray), .int .i64 0, .int .i64 0, .int .i64 0, .int .i64 0, .int .i64 0, .int .i64 0, .bool false, .int .i64 0, .string (⟨#[]⟩ : ByteArray), .int .i64 0, .int .i64 0, .int .i64 0, .int .i64 0, .int .i64 0, .int .i64 0, .int .i64 0, .int .i64 0, .int .i64 0, .bool false]) Z29 rfl (ltn rfl)) rfl ?_
                intro g5991
                refine VL.step1 (o_store 0 21 rfl rfl rfl TI29 (.agg (.c rfl (.c rfl (.c rfl (.c rfl (.c rfl (.c rfl (.c rfl (.c rfl (.c rfl (.c rfl (.c rfl (.c rfl (.c rfl (.c rfl (.c rfl (.c rfl (.c rfl (.c rfl (.c rfl (.c rfl (.c rfl .nil)))))))))))))))))))))) rfl (len rfl)) rfl ?_
                refine VL.va (op_assign rfl (ltn rfl)) rfl ?_
                refine VL.va (op_assign rfl (ltn rfl)) rfl ?_
                refine VL.done ?_
                refine VN.then ?_
                refine VC.seq ?_
                refine VC.seq ?_
                refine VC.region ?_
                refine VL.va (op_move rfl (ltn rfl)) rfl ?_
                refine VL.letter ((t5964 != 0)) fun b6008 hb6008 => ?_
                refine VL.va (op_cmp rfl rfl (congrArg some hb6008) (ltn rfl)) rfl ?_
                refine VL.va (op_move rfl (ltn rfl)) rfl ?_
                by_cases c6009 : t5964 = 0
                · rw [if_pos c6009] at h
                  obtain rfl : b6008 = false := hb6008.symm.trans (bne_eq_false_iff_eq.2 c6009)
                  refine VL.va (op_move rfl (ltn rfl)) rfl ?_
                  refine VL.letter ((t5989 != 0)) fun b6010 hb6010 => ?_
                  refine VL.va (op_cmp rfl rfl (congrArg some hb6010) (ltn rfl)) rfl ?_
                  refine VL.va (op_pick rfl rfl (ltn rfl)) rfl ?_
                  refine VL.va (op_move rfl (ltn rfl)) rfl ?_
                  by_cases c6011 : t5989 = 0
                  · rw [if_pos c6011] at h
                    obtain rfl : b6010 = false := hb6010.symm.trans (bne_eq_false_iff_eq.2 c6011)
                    refine VL.va (op_move rfl (ltn rfl)) rfl ?_
                    refine VL.va (op_move rfl (ltn rfl)) rfl ?_
                    refine VL.va (op_move rfl (ltn rfl)) rfl ?_
                    refine VL.va (op_ari64 rfl rfl rfl (ltn rfl)) rfl ?_
                    refine VL.letter ((t5988 != (wrap64 (t5929 * (wrap64 (1 + ((wrap64 ((a1.tmod 40) + 40)).tmod 40))))))) fun b6012 hb6012 => ?_
                    refine VL.va (op_cmp rfl rfl (congrArg some hb6012) (ltn rfl)) rfl ?_
                    refine VL.va (op_pick rfl rfl (ltn rfl)) rfl ?_
                    refine VL.done ?_
                    refine VN.then ?_
                    by_cases c6013 : t5988 = (wrap64 (t5929 * (wrap64 (1 + ((wrap64 ((a1.tmod 40) + 40)).tmod 40)))))
                    · rw [if_pos c6013] at h
                      obtain rfl : b6012 = false := hb6012.symm.trans (bne_eq_false_iff_eq.2 c6013)
                      refine VC.cond_f rfl ?_
                      refine VC.skip ?_
                      refine VN.then ?_
                      refine VC.seq ?_
                      refine VC.region ?_
                      refine VL.va (op_load 0 21 rfl rfl TI29 rfl (fun h => absurd h (by decide)) (ltn rfl)) rfl ?_
                      refine VL.va (op_move rfl (ltn rfl)) rfl ?_
                      refine VL.va (op_move rfl (ltn rfl)) rfl ?_
                      refine VL.va (op_ari64 rfl rfl rfl (ltn rfl)) rfl ?_
                      refine VL.step1 (o_store 2 21 rfl rfl rfl TI29 (.agg (.c rfl (.c rfl (.c rfl (.c rfl (.c rfl (.c rfl (.c rfl (.c rfl (.c rfl (.c rfl (.c rfl (.c rfl (.c rfl (.c rfl (.c rfl (.c rfl (.c rfl (.c rfl (.c rfl (.c rfl (.c rfl .nil)))))))))))))))))))))) rfl (len rfl)) rfl ?_
                      refine VL.va (op_assign rfl (ltn rfl)) rfl ?_
                      refine VL.done ?_
                      refine VN.then ?_
                      refine VC.seq ?_
                      refine VC.region ?_
                      refine VL.va (op_load 2 21 rfl rfl TI29 rfl (fun h => absurd h (by decide)) (ltn rfl)) rfl ?_
                      replace h := Option.bind_eq_some_iff.1 h
                      obtain ⟨t6017, hA6018, h⟩ := h
                      refine VL.sC (o_call0 FO14 (order_Open.ok k t5967 t5968 t5969 t5970 t5971 t5972 t5973 t5974 t5975 t5976 t5977 t5978 t5979 t5980 t5981 t5982 t5983 t5984 t5985 t5986 t5987 t6017 hA6018) rfl rfl (ltn rfl) (All_of .nil)) rfl ?_
                      rintro _ _ _ ⟨rfl, rfl, rfl⟩
                      by_cases c6019 : t6017 = true
                      · rw [if_pos c6019] at h
                        obtain rfl := c6019
                        refine VL.va (op_not rfl rfl (ltn rfl)) rfl ?_
                        refine VL.done ?_
                        refine VN.then ?_
                        refine VC.cond_f rfl ?_
                        refine VC.skip ?_
                        refine VN.block ?_
                        refine VN.then ?_
                        refine VC.region ?_
                        refine VL.va (op_ari64 rfl rfl rfl (ltn rfl)) rfl ?_
                        refine VL.va (op_move rfl (ltn rfl)) rfl ?_
                        refine VL.done ?_
                        refine VN.again [2] [] (ihl5 (wrap64 (i5306 + t5988)) (wrap64 (i5307 + 1)) t5967 t5968 t5969 t5970 t5971 t5972 t5973 t5974 t5975 t5976 t5977 t5978 t5979 t5980 t5981 t5982 t5983 t5984 t5985 t5986 t5987 h) ⟨rfl, ⟨rfl, rfl, rfl, rfl, rfl, rfl, rfl, trivial⟩, ⟨⟨0, rfl⟩, trivial⟩, rfl, by decide, rfl, by decide⟩
                      · rw [if_neg c6019] at h
                        obtain rfl := Bool.eq_false_iff.2 c6019
                        refine VL.va (op_not rfl rfl (ltn rfl)) rfl ?_
                        refine VL.done ?_
                        refine VN.then ?_
                        refine VC.cond_t rfl ?_
                        refine VC.exit ?_
                        refine VX.miss (by decide) ?_
                        refine VX.then ?_
                        refine VX.then ?_
                        refine VX.hit ?_
                        refine VN.meet22 (wrap64 (i5306 + t5988)) t5967 t5968 t5969 t5970 t5971 t5972 t5973 t5974 t5975 t5976 t5977 t5978 t5979 t5980 t5981 t5982 t5983 t5984 t5985 t5986 t5987 [2] [] h ⟨rfl, ⟨rfl, rfl, rfl, rfl, rfl, rfl, trivial⟩, ⟨⟨0, rfl⟩, trivial⟩, rfl, by decide, rfl, by decide⟩
                    · rw [if_neg c6013] at h
                      obtain rfl : b6012 = true := hb6012.symm.trans (bne_iff_ne.2 c6013)
                      refine VC.cond_t rfl ?_
                      refine VC.seq ?_
                      refine VC.region ?_
                      refine VL.va (op_assign rfl (ltn rfl)) rfl ?_
                      refine VL.done ?_
                      refine VN.then ?_
                      refine VC.ret ?_
                      refine VR.then ?_
                      refine VR.block ?_
                      refine VR.then ?_
                      refine VR.then ?_
                      refine VR.block ?_
                      refine VR.then ?_
                      cases h
                  · rw [if_neg c6011] at h
                    obtain rfl : b6010 = true := hb6010.symm.trans (bne_iff_ne.2 c6011)
                    refine VL.un rfl rfl (ltn rfl) ?_
                    refine VL.un rfl rfl (ltn rfl) ?_
                    refine VL.un rfl rfl (ltn rfl) ?_
                    refine VL.un rfl rfl (ltn rfl) ?_
                    refine VL.un rfl rfl (ltn rfl) ?_
                    refine VL.va (op_pick rfl rfl (ltn rfl)) rfl ?_
                    refine VL.done ?_
                    refine VN.then ?_
                    refine VC.cond_t rfl ?_
                    refine VC.seq ?_
                    refine VC.region ?_
                    refine VL.va (op_assign rfl (ltn rfl)) rfl ?_
                    refine VL.done ?_
                    refine VN.then ?_
                    refine VC.ret ?_
                    refine VR.then ?_
                    refine VR.block ?_
                    refine VR.then ?_
                    refine VR.then ?_
                    refine VR.block ?_
                    refine VR.then ?_
                    cases h
                · rw [if_neg c6009] at h
                  obtain rfl : b6008 = true := hb6008.symm.trans (bne_iff_ne.2 c6009)
                  refine VL.un rfl rfl (ltn rfl) ?_
                  refine VL.un rfl rfl (ltn rfl) ?_
                  refine VL.va (op_pick rfl rfl (ltn rfl)) rfl ?_
                  refine VL.va (op_move rfl (ltn rfl)) rfl ?_
                  refine VL.un rfl rfl (ltn rfl) ?_
                  refine VL.un rfl rfl (ltn rfl) ?_
                  refine VL.un rfl rfl (ltn rfl) ?_
                  refine VL.un rfl rfl (ltn rfl) ?_
                  refine VL.un rfl rfl (ltn rfl) ?_
                  refine VL.va (op_pick rfl rfl (ltn rfl)) rfl ?_
                  refine VL.done ?_
                  refine VN.then ?_
                  refine VC.cond_t rfl ?_
                  refine VC.seq ?_
                  refine VC.region ?_
                  refine VL.va (op_assign rfl (ltn rfl)) rfl ?_
                  refine VL.done ?_
                  refine VN.then ?_
                  refine VC.ret ?_
                  refine VR.then ?_
                  refine VR.block ?_
                  refine VR.then ?_
                  refine VR.then ?_
                  refine VR.block ?_
                  refine VR.then ?_
                  cases h
            · rw [if_neg c5938] at h
              obtain rfl : b5937 = true := hb5937.symm.trans (bne_iff_ne.2 c5938)
              refine VC.cond_t rfl ?_
              refine VC.seq ?_
              refine VC.region ?_
              refine VL.va (op_assign rfl (ltn rfl)) rfl ?_
              refine VL.done ?_
              refine VN.then ?_
              refine VC.ret ?_
              refine VR.then ?_
              refine VR.block ?_
              refine VR.then ?_
              refine VR.then ?_
              refine VR.block ?_
              refine VR.then ?_
              cases h
          · rw [if_neg c5925] at h; cases h
        · rw [if_neg c5924] at h
          obtain rfl : b5923 = false := hb5923.symm.trans (decide_eq_false c5924)
          refine VC.cond_f rfl ?_
          refine VC.skip ?_
          refine VN.then ?_
          refine VC.seq ?_
          refine VC.region ?_
          refine VL.va (op_load 0 21 rfl rfl TI29 rfl (fun h => absurd h (by decide)) (ltn rfl)) rfl ?_
          refine VL.va (op_move rfl (ltn rfl)) rfl ?_
          replace h := Option.bind_eq_some_iff.1 h
          obtain ⟨t6020, hA6021, h⟩ := h
          refine VL.sC (o_call0 FO15 (order_Wants.ok k i5308 s5309 i5310 i5311 i5312 i5313 i5314 i5315 q5316 i5317 s5318 i5319 i5320 i5321 i5322 i5323 i5324 i5325 i5326 i5327 q5328 1 5 t6020 hA6021) rfl rfl (ltn rfl) (All_of .nil)) rfl ?_
          rintro _ _ _ ⟨rfl, rfl, rfl⟩
          refine VL.va (op_assign rfl (ltn rfl)) rfl ?_
          refine VL.done ?_
          refine VN.then ?_
          refine VC.seq ?_
          refine VC.seq ?_
          refine VC.region ?_
          refine VL.va (op_move rfl (ltn rfl)) rfl ?_
          refine VL.va (op_move rfl (ltn rfl)) rfl ?_
          refine VL.va (op_load 0 21 rfl rfl TI29 rfl (fun h => absurd h (by decide)) (ltn rfl)) rfl ?_
          replace h := Option.bind_eq_some_iff.1 h
          obtain ⟨t6026, hA6027, h⟩ := h
          refine VL.sC (o_call0 FO13 (order_Lack.ok k i5308 s5309 i5310 i5311 i5312 i5313 i5314 i5315 q5316 i5317 s5318 i5319 i5320 i5321 i5322 i5323 i5324 i5325 i5326 i5327 q5328 t6026 hA6027) rfl rfl (ltn rfl) (All_of .nil)) rfl ?_
          rintro _ _ _ ⟨rfl, rfl, rfl⟩
          refine VL.va (op_min rfl rfl (ltn rfl)) rfl ?_
          refine VL.letter ((t6020 != (mn (1 : Int) t6026))) fun b6028 hb6028 => ?_
          refine VL.va (op_cmp rfl rfl (congrArg some hb6028) (ltn rfl)) rfl ?_
          refine VL.done ?_
          refine VN.then ?_
          by_cases c6029 : t6020 = (mn (1 : Int) t6026)
          · rw [if_pos c6029] at h
            obtain rfl : b6028 = false := hb6028.symm.trans (bne_eq_false_iff_eq.2 c6029)
            refine VC.cond_f rfl ?_
            refine VC.skip ?_
            refine VN.then ?_
            refine VC.seq ?_
            refine VC.seq ?_
            refine VC.region ?_
            refine VL.va (op_move rfl (ltn rfl)) rfl ?_
            refine VL.letter ((t6020 == 0)) fun b6032 hb6032 => ?_
            refine VL.va (op_cmp rfl rfl (congrArg some hb6032) (ltn rfl)) rfl ?_
            refine VL.done ?_
            refine VN.then ?_
            by_cases c6033 : t6020 = 0
            · rw [if_pos c6033] at h
              obtain rfl : b6032 = true := hb6032.symm.trans (beq_iff_eq.2 c6033)
              refine VC.cond_t rfl ?_
              refine VC.exit ?_
              refine VX.then ?_
              refine VX.hit ?_
              refine VN.then ?_
              refine VC.region ?_
              refine VL.va (op_ari64 rfl rfl rfl (ltn rfl)) rfl ?_
              refine VL.va (op_move rfl (ltn rfl)) rfl ?_
              refine VL.done ?_
              refine VN.again [0] [] (ihl5 i5306 (wrap64 (i5307 + 1)) i5308 s5309 i5310 i5311 i5312 i5313 i5314 i5315 q5316 i5317 s5318 i5319 i5320 i5321 i5322 i5323 i5324 i5325 i5326 i5327 q5328 h) ⟨rfl, ⟨rfl, rfl, rfl, rfl, rfl, rfl, rfl, trivial⟩, ⟨⟨0, rfl⟩, trivial⟩, rfl, by decide, rfl, by decide⟩
            · rw [if_neg c6033] at h
              obtain rfl : b6032 = false := hb6032.symm.trans (beq_eq_false_iff_ne.2 c6033)
              refine VC.cond_f rfl ?_
              refine VC.skip ?_
              refine VN.then ?_
              refine VC.seq ?_
              refine VC.region ?_
              refine VL.va (op_load 0 21 rfl rfl TI29 rfl (fun h => absurd h (by decide)) (ltn rfl)) rfl ?_
              refine VL.va (op_move rfl (ltn rfl)) rfl ?_
              refine VL.va (op_move rfl (ltn rfl)) rfl ?_
              refine VL.va (op_move rfl (ltn rfl)) rfl ?_
              refine VL.va (op_ari64 rfl rfl rfl (ltn rfl)) rfl ?_
              refine VL.va (op_build (vals := [(0, .string (⟨#[99, 117, 112]⟩ : ByteArray)), (1, .int .i64 t6020), (2, .int .i64 t6020), (3, .int .i64 (wrap64 (i5307 + 1)))]) (vcs := [(0, [.string (⟨#[99, 117, 112]⟩ : ByteArray)]), (1, [.int .i64 t6020]), (2, [.int .i64 t6020]), (3, [.int .i64 (wrap64 (i5307 + 1))])]) (cells := [.string (⟨#[99, 117, 112]⟩ : ByteArray), .int .i64 t6020, .int .i64 t6020, .int .i64 (wrap64 (i5307 + 1))]) SI23 rfl (.cons ⟨rfl, (.c rfl)⟩ (.cons ⟨rfl, (.c rfl)⟩ (.cons ⟨rfl, (.c rfl)⟩ (.cons ⟨rfl, (.c rfl)⟩ .nil)))) (by kernel_rfl) (ltn rfl)) rfl ?_
              replace h := Option.bind_eq_some_iff.1 h
              obtain ⟨⟨t6034, t6035, t6036, t6037, t6038, t6039, t6040, t6041, t6042, t6043, t6044, t6045, t6046, t6047, t6048, t6049, t6050, t6051, t6052, t6053, t6054, t6055⟩, hA6056, h⟩ := h
              dsimp only at h
              refine VL.sC (o_call0 FO17 (order_Send.ok k i5308 s5309 i5310 i5311 i5312 i5313 i5314 i5315 q5316 i5317 s5318 i5319 i5320 i5321 i5322 i5323 i5324 i5325 i5326 i5327 q5328 (⟨#[99, 117, 112]⟩ : ByteArray) t6020 t6020 (wrap64 (i5307 + 1)) t6034 t6035 t6036 t6037 t6038 t6039 t6040 t6041 t6042 t6043 t6044 t6045 t6046 t6047 t6048 t6049 t6050 t6051 t6052 t6053 t6054 t6055 hA6056) rfl rfl (ltn rfl) (All_of .nil)) rfl ?_
              rintro _ _ _ ⟨rfl, rfl, rfl⟩
              refine VL.va (op_move rfl (ltn rfl)) rfl ?_
              refine VL.va (op_extract rfl rfl (ltn rfl)) rfl ?_
              refine VL.va (op_extract rfl rfl (ltn rfl)) rfl ?_
              refine VL.sG (o_alloc (us := [.int .i64 0, .string (⟨#[]⟩ : ByteArray), .int .i64 0, .int .i64 0, .int .i64 0, .int .i64 0, .int .i64 0, .int .i64 0, .bool false, .int .i64 0, .string (⟨#[]⟩ : ByteArray), .int .i64 0, .int .i64 0, .int .i64 0, .int .i64 0, .int .i64 0, .int .i64 0, .int .i64 0, .int .i64 0, .int .i64 0, .bool false]) Z29 rfl (ltn rfl)) rfl ?_
              intro g6057
              refine VL.step1 (o_store 0 21 rfl rfl rfl TI29 (.agg (.c rfl (.c rfl (.c rfl (.c rfl (.c rfl (.c rfl (.c rfl (.c rfl (.c rfl (.c rfl (.c rfl (.c rfl (.c rfl (.c rfl (.c rfl (.c rfl (.c rfl (.c rfl (.c rfl (.c rfl (.c rfl .nil)))))))))))))))))))))) rfl (len rfl)) rfl ?_
              refine VL.va (op_assign rfl (ltn rfl)) rfl ?_
              refine VL.done ?_
              refine VN.then ?_
              refine VC.seq ?_
              refine VC.region ?_
              refine VL.va (op_load 0 21 rfl rfl TI29 rfl (fun h => absurd h (by decide)) (ltn rfl)) rfl ?_
              replace h := Option.bind_eq_some_iff.1 h
              obtain ⟨⟨t6058, t6059, t6060, t6061, t6062, t6063, t6064, t6065, t6066, t6067, t6068, t6069, t6070, t6071, t6072, t6073, t6074, t6075, t6076, t6077, t6078, t6079, t6080⟩, hA6081, h⟩ := h
              dsimp only at h
              refine VL.sC (o_call0 FO18 (order_Came.ok k t6034 t6035 t6036 t6037 t6038 t6039 t6040 t6041 t6042 t6043 t6044 t6045 t6046 t6047 t6048 t6049 t6050 t6051 t6052 t6053 t6054 t6058 t6059 t6060 t6061 t6062 t6063 t6064 t6065 t6066 t6067 t6068 t6069 t6070 t6071 t6072 t6073 t6074 t6075 t6076 t6077 t6078 t6079 t6080 hA6081) rfl rfl (ltn rfl) (All_of .nil)) rfl ?_
              rintro _ _ _ ⟨rfl, rfl, rfl⟩
              refine VL.va (op_move rfl (ltn rfl)) rfl ?_
              refine VL.va (op_extract rfl rfl (ltn rfl)) rfl ?_
              refine VL.va (op_extract rfl rfl (ltn rfl)) rfl ?_
              refine VL.va (op_extract rfl rfl (ltn rfl)) rfl ?_
              refine VL.sG (o_alloc (us := [.int .i64 0, .string (⟨#[]⟩ : ByteArray), .int .i64 0, .int .i64 0, .int .i64 0, .int .i64 0, .int .i64 0, .int .i64 0, .bool false, .int .i64 0, .string (⟨#[]⟩ : ByteArray), .int .i64 0, .int .i64 0, .int .i64 0, .int .i64 0, .int .i64 0, .int .i64 0, .int .i64 0, .int .i64 0, .int .i64 0, .bool false]) Z29 rfl (ltn rfl)) rfl ?_
              intro g6082
              refine VL.step1 (o_store 0 21 rfl rfl rfl TI29 (.agg (.c rfl (.c rfl (.c rfl (.c rfl (.c rfl (.c rfl (.c rfl (.c rfl (.c rfl (.c rfl (.c rfl (.c rfl (.c rfl (.c rfl (.c rfl (.c rfl (.c rfl (.c rfl (.c rfl (.c rfl (.c rfl .nil)))))))))))))))))))))) rfl (len rfl)) rfl ?_
              refine VL.va (op_assign rfl (ltn rfl)) rfl ?_
              refine VL.va (op_assign rfl (ltn rfl)) rfl ?_
              refine VL.done ?_
              refine VN.then ?_
              refine VC.seq ?_
              refine VC.seq ?_
              refine VC.region ?_
              refine VL.va (op_move rfl (ltn rfl)) rfl ?_
              refine VL.letter ((t6055 != 0)) fun b6099 hb6099 => ?_
              refine VL.va (op_cmp rfl rfl (congrArg some hb6099) (ltn rfl)) rfl ?_
              refine VL.va (op_move rfl (ltn rfl)) rfl ?_
              by_cases c6100 : t6055 = 0
              · rw [if_pos c6100] at h
                obtain rfl : b6099 = false := hb6099.symm.trans (bne_eq_false_iff_eq.2 c6100)
                refine VL.va (op_move rfl (ltn rfl)) rfl ?_
                refine VL.letter ((t6080 != 0)) fun b6101 hb6101 => ?_
                refine VL.va (op_cmp rfl rfl (congrArg some hb6101) (ltn rfl)) rfl ?_
                refine VL.va (op_pick rfl rfl (ltn rfl)) rfl ?_
                refine VL.va (op_move rfl (ltn rfl)) rfl ?_
                by_cases c6102 : t6080 = 0
                · rw [if_pos c6102] at h
                  obtain rfl : b6101 = false := hb6101.symm.trans (bne_eq_false_iff_eq.2 c6102)
                  refine VL.va (op_move rfl (ltn rfl)) rfl ?_
                  refine VL.va (op_move rfl (ltn rfl)) rfl ?_
                  refine VL.va (op_move rfl (ltn rfl)) rfl ?_
                  refine VL.va (op_ari64 rfl rfl rfl (ltn rfl)) rfl ?_
                  refine VL.letter ((t6079 != (wrap64 (t6020 * (wrap64 (1 + ((wrap64 ((a1.tmod 40) + 40)).tmod 40))))))) fun b6103 hb6103 => ?_
                  refine VL.va (op_cmp rfl rfl (congrArg some hb6103) (ltn rfl)) rfl ?_
                  refine VL.va (op_pick rfl rfl (ltn rfl)) rfl ?_
                  refine VL.done ?_
                  refine VN.then ?_
                  by_cases c6104 : t6079 = (wrap64 (t6020 * (wrap64 (1 + ((wrap64 ((a1.tmod 40) + 40)).tmod 40)))))
                  · rw [if_pos c6104] at h
                    obtain rfl : b6103 = false := hb6103.symm.trans (bne_eq_false_iff_eq.2 c6104)
                    refine VC.cond_f rfl ?_
                    refine VC.skip ?_
                    refine VN.then ?_
                    refine VC.seq ?_
                    refine VC.region ?_
                    refine VL.va (op_load 0 21 rfl rfl TI29 rfl (fun h => absurd h (by decide)) (ltn rfl)) rfl ?_
                    refine VL.va (op_move rfl (ltn rfl)) rfl ?_
                    refine VL.va (op_move rfl (ltn rfl)) rfl ?_
                    refine VL.va (op_ari64 rfl rfl rfl (ltn rfl)) rfl ?_
                    refine VL.step1 (o_store 2 21 rfl rfl rfl TI29 (.agg (.c rfl (.c rfl (.c rfl (.c rfl (.c rfl (.c rfl (.c rfl (.c rfl (.c rfl (.c rfl (.c rfl (.c rfl (.c rfl (.c rfl (.c rfl (.c rfl (.c rfl (.c rfl (.c rfl (.c rfl (.c rfl .nil)))))))))))))))))))))) rfl (len rfl)) rfl ?_
                    refine VL.va (op_assign rfl (ltn rfl)) rfl ?_
                    refine VL.done ?_
                    refine VN.then ?_
                    refine VC.seq ?_
                    refine VC.region ?_
                    refine VL.va (op_load 2 21 rfl rfl TI29 rfl (fun h => absurd h (by decide)) (ltn rfl)) rfl ?_
                    replace h := Option.bind_eq_some_iff.1 h
                    obtain ⟨t6108, hA6109, h⟩ := h
                    refine VL.sC (o_call0 FO14 (order_Open.ok k t6058 t6059 t6060 t6061 t6062 t6063 t6064 t6065 t6066 t6067 t6068 t6069 t6070 t6071 t6072 t6073 t6074 t6075 t6076 t6077 t6078 t6108 hA6109) rfl rfl (ltn rfl) (All_of .nil)) rfl ?_
                    rintro _ _ _ ⟨rfl, rfl, rfl⟩
                    by_cases c6110 : t6108 = true
                    · rw [if_pos c6110] at h
                      obtain rfl := c6110
                      refine VL.va (op_not rfl rfl (ltn rfl)) rfl ?_
                      refine VL.done ?_
                      refine VN.then ?_
                      refine VC.cond_f rfl ?_
                      refine VC.skip ?_
                      refine VN.block ?_
                      refine VN.then ?_
                      refine VC.region ?_
                      refine VL.va (op_ari64 rfl rfl rfl (ltn rfl)) rfl ?_
                      refine VL.va (op_move rfl (ltn rfl)) rfl ?_
                      refine VL.done ?_
                      refine VN.again [2] [] (ihl5 (wrap64 (i5306 + t6079)) (wrap64 (i5307 + 1)) t6058 t6059 t6060 t6061 t6062 t6063 t6064 t6065 t6066 t6067 t6068 t6069 t6070 t6071 t6072 t6073 t6074 t6075 t6076 t6077 t6078 h) ⟨rfl, ⟨rfl, rfl, rfl, rfl, rfl, rfl, rfl, trivial⟩, ⟨⟨0, rfl⟩, trivial⟩, rfl, by decide, rfl, by decide⟩
                    · rw [if_neg c6110] at h
                      obtain rfl := Bool.eq_false_iff.2 c6110
                      refine VL.va (op_not rfl rfl (ltn rfl)) rfl ?_
                      refine VL.done ?_
                      refine VN.then ?_
                      refine VC.cond_t rfl ?_
                      refine VC.exit ?_
                      refine VX.miss (by decide) ?_
                      refine VX.then ?_
                      refine VX.then ?_
                      refine VX.hit ?_
                      refine VN.meet22 (wrap64 (i5306 + t6079)) t6058 t6059 t6060 t6061 t6062 t6063 t6064 t6065 t6066 t6067 t6068 t6069 t6070 t6071 t6072 t6073 t6074 t6075 t6076 t6077 t6078 [2] [] h ⟨rfl, ⟨rfl, rfl, rfl, rfl, rfl, rfl, trivial⟩, ⟨⟨0, rfl⟩, trivial⟩, rfl, by decide, rfl, by decide⟩
                  · rw [if_neg c6104] at h
                    obtain rfl : b6103 = true := hb6103.symm.trans (bne_iff_ne.2 c6104)
                    refine VC.cond_t rfl ?_
                    refine VC.seq ?_
                    refine VC.region ?_
                    refine VL.va (op_assign rfl (ltn rfl)) rfl ?_
                    refine VL.done ?_
                    refine VN.then ?_
                    refine VC.ret ?_
                    refine VR.then ?_
                    refine VR.block ?_
                    refine VR.then ?_
                    refine VR.then ?_
                    refine VR.block ?_
                    refine VR.then ?_
                    cases h
                · rw [if_neg c6102] at h
                  obtain rfl : b6101 = true := hb6101.symm.trans (bne_iff_ne.2 c6102)
                  refine VL.un rfl rfl (ltn rfl) ?_
                  refine VL.un rfl rfl (ltn rfl) ?_
                  refine VL.un rfl rfl (ltn rfl) ?_
                  refine VL.un rfl rfl (ltn rfl) ?_
                  refine VL.un rfl rfl (ltn rfl) ?_
                  refine VL.va (op_pick rfl rfl (ltn rfl)) rfl ?_
                  refine VL.done ?_
                  refine VN.then ?_
                  refine VC.cond_t rfl ?_
                  refine VC.seq ?_
                  refine VC.region ?_
                  refine VL.va (op_assign rfl (ltn rfl)) rfl ?_
                  refine VL.done ?_
                  refine VN.then ?_
                  refine VC.ret ?_
                  refine VR.then ?_
                  refine VR.block ?_
                  refine VR.then ?_
                  refine VR.then ?_
                  refine VR.block ?_
                  refine VR.then ?_
                  cases h
              · rw [if_neg c6100] at h
                obtain rfl : b6099 = true := hb6099.symm.trans (bne_iff_ne.2 c6100)
                refine VL.un rfl rfl (ltn rfl) ?_
                refine VL.un rfl rfl (ltn rfl) ?_
                refine VL.va (op_pick rfl rfl (ltn rfl)) rfl ?_
                refine VL.va (op_move rfl (ltn rfl)) rfl ?_
                refine VL.un rfl rfl (ltn rfl) ?_
                refine VL.un rfl rfl (ltn rfl) ?_
                refine VL.un rfl rfl (ltn rfl) ?_
                refine VL.un rfl rfl (ltn rfl) ?_
                refine VL.un rfl rfl (ltn rfl) ?_
                refine VL.va (op_pick rfl rfl (ltn rfl)) rfl ?_
                refine VL.done ?_
                refine VN.then ?_
                refine VC.cond_t rfl ?_
                refine VC.seq ?_
                refine VC.region ?_
                refine VL.va (op_assign rfl (ltn rfl)) rfl ?_
                refine VL.done ?_
                refine VN.then ?_
                refine VC.ret ?_
                refine VR.then ?_
                refine VR.block ?_
                refine VR.then ?_
                refine VR.then ?_
                refine VR.block ?_
                refine VR.then ?_
                cases h
          · rw [if_neg c6029] at h
            obtain rfl : b6028 = true := hb6028.symm.trans (bne_iff_ne.2 c6029)
            refine VC.cond_t rfl ?_
            refine VC.seq ?_
            refine VC.region ?_
            refine VL.va (op_assign rfl (ltn rfl)) rfl ?_
            refine VL.done ?_
            refine VN.then ?_
            refine VC.ret ?_
            refine VR.then ?_
            refine VR.block ?_
            refine VR.then ?_
            refine VR.then ?_
            refine VR.block ?_
            refine VR.then ?_
            cases h
      · rw [if_neg c5722] at h
        obtain rfl : b5720 = false := hb5720.symm.trans (decide_eq_false c5722)
        refine VC.cond_f rfl ?_
        refine VC.exit ?_
        refine VX.then ?_
        refine VX.then ?_
        refine VX.hit ?_
        refine VN.meet22 i5306 i5308 s5309 i5310 i5311 i5312 i5313 i5314 i5315 q5316 i5317 s5318 i5319 i5320 i5321 i5322 i5323 i5324 i5325 i5326 i5327 q5328 [0] [] h ⟨rfl, ⟨rfl, rfl, rfl, rfl, rfl, rfl, trivial⟩, ⟨⟨0, rfl⟩, trivial⟩, rfl, by decide, rfl, by decide⟩
    clear h
    intro i6111 i6112 s6113 i6114 i6115 i6116 i6117 i6118 i6119 q6120 i6121 s6122 i6123 i6124 i6125 i6126 i6127 i6128 i6129 i6130 i6131 q6132 h
    unfold tarrylaw13_OrderParts.j4 at h
    refine VC.seq ?_
    refine VC.seq ?_
    refine VC.region ?_
    refine VL.va (op_move rfl (ltn rfl)) rfl ?_
    refine VL.va (op_len (m := l2.length) 0 lenm Try.underlying42 rfl rfl (ltn rfl)) rfl ?_
    refine VL.letter (decide ((l2.length : Int) > 20)) fun b6137 hb6137 => ?_
    refine VL.va (op_cmp rfl rfl (congrArg some hb6137) (ltn rfl)) rfl ?_
    refine VL.done ?_
    refine VN.then ?_
    by_cases c6138 : (l2.length : Int) > 20
    · rw [if_pos c6138] at h
      obtain rfl : b6137 = true := hb6137.symm.trans (decide_eq_true c6138)
      refine VC.cond_t rfl ?_
      refine VC.seq ?_
      refine VC.region ?_
      replace h := Option.bind_eq_some_iff.1 h
      obtain ⟨t6139, hA6140, h⟩ := h
      refine VL.sC (o_call0 FO11 (tarrylaw13_alive.ok k t6139 hA6140) rfl rfl (ltn rfl) (All_of .nil)) rfl ?_
      rintro _ _ _ ⟨rfl, rfl, rfl⟩
      refine VL.va (op_assign rfl (ltn rfl)) rfl ?_
      refine VL.done ?_
      refine VN.then ?_
      refine VC.ret ?_
      refine VR.then ?_
      obtain rfl := Option.some.inj h
      exact VR.fn (rs := [.tmp 6]) [] [] [] rfl (.tmp rfl .nil) ⟨rfl, rfl, rfl⟩ trivial rfl (by decide)
    · rw [if_neg c6138] at h
      obtain rfl : b6137 = false := hb6137.symm.trans (decide_eq_false c6138)
      refine VC.cond_f rfl ?_
      refine VC.skip ?_
      refine VN.then ?_
      refine VC.seq ?_
      refine VC.region ?_
      replace h := Option.bind_eq_some_iff.1 h
      obtain ⟨t6149, hA6150, h⟩ := h
      refine VL.sC (o_call0 FO11 (tarrylaw13_alive.ok k t6149 hA6150) rfl rfl (ltn rfl) (All_of .nil)) rfl ?_
      rintro _ _ _ ⟨rfl, rfl, rfl⟩
      refine VL.va (op_move rfl (ltn rfl)) rfl ?_
      by_cases c6151 : t6149 = true
      · rw [if_pos c6151] at h
        obtain rfl := c6151
        refine VL.va (op_fieldAddr FI29_9 rfl (add_at _ _ _) (ltn rfl)) rfl ?_
        refine VL.va (op_load 0 1 rfl rfl TI3 rfl (by decide) (ltn rfl)) rfl ?_
        refine VL.letter ((i6121 == 3)) fun b6152 hb6152 => ?_
        refine VL.va (op_cmp rfl rfl (congrArg some hb6152) (ltn rfl)) rfl ?_
        refine VL.va (op_pick rfl rfl (ltn rfl)) rfl ?_
        refine VL.va (op_move rfl (ltn rfl)) rfl ?_
        by_cases c6153 : i6121 = 3
        · rw [if_pos c6153] at h
          obtain rfl : b6152 = true := hb6152.symm.trans (beq_iff_eq.2 c6153)
          refine VL.va (op_move rfl (ltn rfl)) rfl ?_
          refine VL.va (op_move rfl (ltn rfl)) rfl ?_
          refine VL.va (op_move rfl (ltn rfl)) rfl ?_
          refine VL.va (op_ari64 rfl rfl rfl (ltn rfl)) rfl ?_
          refine VL.letter ((i6111 == (wrap64 ((wrap64 (1 + ((wrap64 ((a0.tmod 40) + 40)).tmod 40))) * (wrap64 (1 + ((wrap64 ((a1.tmod 40) + 40)).tmod 40))))))) fun b6154 hb6154 => ?_
          refine VL.va (op_cmp rfl rfl (congrArg some hb6154) (ltn rfl)) rfl ?_
          refine VL.va (op_pick rfl rfl (ltn rfl)) rfl ?_
          refine VL.va (op_move rfl (ltn rfl)) rfl ?_
          by_cases c6155 : i6111 = (wrap64 ((wrap64 (1 + ((wrap64 ((a0.tmod 40) + 40)).tmod 40))) * (wrap64 (1 + ((wrap64 ((a1.tmod 40) + 40)).tmod 40)))))
          · rw [if_pos c6155] at h
            obtain rfl : b6154 = true := hb6154.symm.trans (beq_iff_eq.2 c6155)
            refine VL.va (op_fieldAddr FI29_5 rfl (add_at _ _ _) (ltn rfl)) rfl ?_
            refine VL.va (op_load 0 1 rfl rfl TI3 rfl (by decide) (ltn rfl)) rfl ?_
            refine VL.va (op_move rfl (ltn rfl)) rfl ?_
            refine VL.letter ((i6117 == (wrap64 (1 + ((wrap64 ((a0.tmod 40) + 40)).tmod 40))))) fun b6156 hb6156 => ?_
            refine VL.va (op_cmp rfl rfl (congrArg some hb6156) (ltn rfl)) rfl ?_
            refine VL.va (op_pick rfl rfl (ltn rfl)) rfl ?_
            refine VL.va (op_assign rfl (ltn rfl)) rfl ?_
            refine VL.done ?_
            refine VN.then ?_
            refine VC.ret ?_
            obtain rfl := Option.some.inj h
            subst hb6156
            exact VR.fn (rs := [.tmp 6]) [] [] [] rfl (.tmp rfl .nil) ⟨rfl, rfl, rfl⟩ trivial rfl (by decide)
          · rw [if_neg c6155] at h
            obtain rfl : b6154 = false := hb6154.symm.trans (beq_eq_false_iff_ne.2 c6155)
            refine VL.un rfl rfl (ltn rfl) ?_
            refine VL.un rfl rfl (ltn rfl) ?_
            refine VL.un rfl rfl (ltn rfl) ?_
            refine VL.un rfl rfl (ltn rfl) ?_
            refine VL.va (op_pick rfl rfl (ltn rfl)) rfl ?_
            refine VL.va (op_assign rfl (ltn rfl)) rfl ?_
            refine VL.done ?_
            refine VN.then ?_
            refine VC.ret ?_
            cases h
        · rw [if_neg c6153] at h
          obtain rfl : b6152 = false := hb6152.symm.trans (beq_eq_false_iff_ne.2 c6153)
          refine VL.un rfl rfl (ltn rfl) ?_
          refine VL.un rfl rfl (ltn rfl) ?_
          refine VL.un rfl rfl (ltn rfl) ?_
          refine VL.un rfl rfl (ltn rfl) ?_
          refine VL.un rfl rfl (ltn rfl) ?_
          refine VL.va (op_pick rfl rfl (ltn rfl)) rfl ?_
          refine VL.va (op_move rfl (ltn rfl)) rfl ?_
          refine VL.un rfl rfl (ltn rfl) ?_
          refine VL.un rfl rfl (ltn rfl) ?_
          refine VL.un rfl rfl (ltn rfl) ?_
          refine VL.un rfl rfl (ltn rfl) ?_
          refine VL.va (op_pick rfl rfl (ltn rfl)) rfl ?_
          refine VL.va (op_assign rfl (ltn rfl)) rfl ?_
          refine VL.done ?_
          refine VN.then ?_
          refine VC.ret ?_
          cases h
      · rw [if_neg c6151] at h
        obtain rfl := Bool.eq_false_iff.2 c6151
        refine VL.un rfl rfl (ltn rfl) ?_
        refine VL.un rfl rfl (ltn rfl) ?_
        refine VL.un rfl rfl (ltn rfl) ?_
        refine VL.va (op_pick rfl rfl (ltn rfl)) rfl ?_
        refine VL.va (op_move rfl (ltn rfl)) rfl ?_
        refine VL.un rfl rfl (ltn rfl) ?_
        refine VL.un rfl rfl (ltn rfl) ?_
        refine VL.un rfl rfl (ltn rfl) ?_
        refine VL.un rfl rfl (ltn rfl) ?_
        refine VL.un rfl rfl (ltn rfl) ?_
        refine VL.va (op_pick rfl rfl (ltn rfl)) rfl ?_
        refine VL.va (op_move rfl (ltn rfl)) rfl ?_
        refine VL.un rfl rfl (ltn rfl) ?_
        refine VL.un rfl rfl (ltn rfl) ?_
        refine VL.un rfl rfl (ltn rfl) ?_
        refine VL.un rfl rfl (ltn rfl) ?_
        refine VL.va (op_pick rfl rfl (ltn rfl)) rfl ?_
        refine VL.va (op_assign rfl (ltn rfl)) rfl ?_
        refine VL.done ?_
        refine VN.then ?_
        refine VC.ret ?_
        cases h
  · rw [if_neg c1848] at h
    obtain rfl : b1847 = true := hb1847.symm.trans (bne_iff_ne.2 c1848)
    refine VC.cond_t rfl ?_
    refine VC.seq ?_
    refine VC.region ?_
    refine VL.va (op_assign rfl (ltn rfl)) rfl ?_
    refine VL.done ?_
    refine VN.then ?_
    refine VC.ret ?_
    refine VR.then ?_
    cases h

end Go.Proofs.Ytlmpfogfgefngaa.GOrderParts
