/- Written by a program of this repo: what the program's functions do, each as a Lean function, shown of the loaded code; or a statement's row over that; no condition of its own. -/
import Derived.Test.YtlmpfogfgefngaaGOrderEndsx7
namespace Go.Proofs.Ytlmpfogfgefngaa.GOrderEnds
open Go Go.RowKit Go.Proofs.YtlmpfogfgefngaaV Go.Proofs.Ytlmpfogfgefngaa.POrderParts
set_option linter.unusedVariables false
set_option linter.unusedSimpArgs false

set_option maxHeartbeats 4000000 in
set_option maxRecDepth 100000 in
theorem tarrylaw13_OrderEnds.ok (k : Nat) (a0 : Int) (a1 : Int) (a2 : Bool) (l3 : List S52) (v3 : Value) (r1 : Bool) (h : tarrylaw13_OrderEnds.f k a0 a1 a2 l3 = some r1) :
    VCalls Try.prog 6 [.int .i64 a0, .int .i64 a1, .bool a2, v3] [.row v3 2 (l3.map enc52)] (fun v G own => v = .bool r1 ∧ G = [] ∧ own = []) := by
  refine VCalls.intro Try.func6 rfl (len rfl) fun E hC => ?_
  unfold tarrylaw13_OrderEnds.f at h
  refine VC.seq ?_
  refine VC.region ?_
  refine VL.va (op_assign rfl (ltn rfl)) rfl ?_
  refine VL.done ?_
  refine VN.then ?_
  refine VC.seq ?_
  refine VC.region ?_
  refine VL.va (op_move rfl (ltn rfl)) rfl ?_
  refine VL.va (op_rem rfl rfl (by decide) rfl (ltn rfl)) rfl ?_
  refine VL.va (op_ari64 rfl rfl rfl (ltn rfl)) rfl ?_
  refine VL.va (op_rem rfl rfl (by decide) rfl (ltn rfl)) rfl ?_
  refine VL.va (op_ari64 rfl rfl rfl (ltn rfl)) rfl ?_
  refine VL.va (op_move rfl (ltn rfl)) rfl ?_
  refine VL.va (op_rem rfl rfl (by decide) rfl (ltn rfl)) rfl ?_
  refine VL.va (op_ari64 rfl rfl rfl (ltn rfl)) rfl ?_
  refine VL.va (op_rem rfl rfl (by decide) rfl (ltn rfl)) rfl ?_
  refine VL.va (op_ari64 rfl rfl rfl (ltn rfl)) rfl ?_
  refine VL.va (op_assign rfl (ltn rfl)) rfl ?_
  refine VL.va (op_assign rfl (ltn rfl)) rfl ?_
  refine VL.done ?_
  refine VN.then ?_
  refine VC.seq ?_
  refine VC.region ?_
  refine VL.va (op_move rfl (ltn rfl)) rfl ?_
  refine VL.va (op_move rfl (ltn rfl)) rfl ?_
  refine VL.va (op_move rfl (ltn rfl)) rfl ?_
  refine VL.va (op_build (vals := [(0, .int .i64 1), (1, .string (⟨#[99, 117, 112]⟩ : ByteArray)), (3, .int .i64 1), (4, .int .i64 (wrap64 (1 + ((wrap64 ((a0.tmod 50) + 50)).tmod 50)))), (6, .int .i64 (wrap64 (1 + ((wrap64 ((a1.tmod 50) + 50)).tmod 50)))), (7, .int .i64 9), (8, .bool a2)]) (vcs := [(0, [.int .i64 1]), (1, [.string (⟨#[99, 117, 112]⟩ : ByteArray)]), (3, [.int .i64 1]), (4, [.int .i64 (wrap64 (1 + ((wrap64 ((a0.tmod 50) + 50)).tmod 50)))]), (6, [.int .i64 (wrap64 (1 + ((wrap64 ((a1.tmod 50) + 50)).tmod 50)))]), (7, [.int .i64 9]), (8, [.bool a2])]) (cells := [.int .i64 1, .string (⟨#[99, 117, 112]⟩ : ByteArray), .int .i64 0, .int .i64 1, .int .i64 (wrap64 (1 + ((wrap64 ((a0.tmod 50) + 50)).tmod 50))), .int .i64 0, .int .i64 (wrap64 (1 + ((wrap64 ((a1.tmod 50) + 50)).tmod 50))), .int .i64 9, .bool a2, .int .i64 0, .string (⟨#[]⟩ : ByteArray), .int .i64 0, .int .i64 0, .int .i64 0, .int .i64 0, .int .i64 0, .int .i64 0, .int .i64 0, .int .i64 0, .int .i64 0, .bool false]) SI29 rfl (.cons ⟨rfl, (.c rfl)⟩ (.cons ⟨rfl, (.c rfl)⟩ (.cons ⟨rfl, (.c rfl)⟩ (.cons ⟨rfl, (.c rfl)⟩ (.cons ⟨rfl, (.c rfl)⟩ (.cons ⟨rfl, (.c rfl)⟩ (.cons ⟨rfl, (.c rfl)⟩ .nil))))))) (by kernel_rfl) (ltn rfl)) rfl ?_
  replace h := Option.bind_eq_some_iff.1 h
  obtain ⟨⟨t1821, t1822, t1823, t1824, t1825, t1826, t1827, t1828, t1829, t1830, t1831, t1832, t1833, t1834, t1835, t1836, t1837, t1838, t1839, t1840, t1841, t1842⟩, hA1843, h⟩ := h
  dsimp only at h
  refine VL.sC (o_call0 FO8 (order_New.ok k 1 (⟨#[99, 117, 112]⟩ : ByteArray) 0 1 (wrap64 (1 + ((wrap64 ((a0.tmod 50) + 50)).tmod 50))) 0 (wrap64 (1 + ((wrap64 ((a1.tmod 50) + 50)).tmod 50))) 9 a2 0 (⟨#[]⟩ : ByteArray) 0 0 0 0 0 0 0 0 0 false 100 t1821 t1822 t1823 t1824 t1825 t1826 t1827 t1828 t1829 t1830 t1831 t1832 t1833 t1834 t1835 t1836 t1837 t1838 t1839 t1840 t1841 t1842 hA1843) rfl rfl (ltn rfl) (All_of .nil)) rfl ?_
  rintro _ _ _ ⟨rfl, rfl, rfl⟩
  refine VL.va (op_move rfl (ltn rfl)) rfl ?_
  refine VL.va (op_extract rfl rfl (ltn rfl)) rfl ?_
  refine VL.va (op_extract rfl rfl (ltn rfl)) rfl ?_
  refine VL.sG (o_alloc (us := [.int .i64 0, .string (⟨#[]⟩ : ByteArray), .int .i64 0, .int .i64 0, .int .i64 0, .int .i64 0, .int .i64 0, .int .i64 0, .bool false, .int .i64 0, .string (⟨#[]⟩ : ByteArray), .int .i64 0, .int .i64 0, .int .i64 0, .int .i64 0, .int .i64 0, .int .i64 0, .int .i64 0, .int .i64 0, .int .i64 0, .bool false]) Z29 rfl (ltn rfl)) rfl ?_
  intro g1844
  refine VL.step1 (o_store 0 21 rfl rfl rfl TI29 (.agg (.c rfl (.c rfl (.c rfl (.c rfl (.c rfl (.c rfl (.c rfl (.c rfl (.c rfl (.c rfl (.c rfl (.c rfl (.c rfl (.c rfl (.c rfl (.c rfl (.c rfl (.c rfl (.c rfl (.c rfl (.c rfl .nil)))))))))))))))))))))) rfl (len rfl)) rfl ?_
  refine VL.va (op_assign rfl (ltn rfl)) rfl ?_
  refine VL.done ?_
  refine VN.then ?_
  refine VC.seq ?_
  refine VC.seq ?_
  refine VC.region ?_
  refine VL.va (op_move rfl (ltn rfl)) rfl ?_
  refine VL.letter ((t1842 != 0)) fun b1847 hb1847 => ?_
  refine VL.va (op_cmp rfl rfl (congrArg some hb1847) (ltn rfl)) rfl ?_
  refine VL.done ?_
  refine VN.then ?_
  by_cases c1848 : t1842 = 0
  · rw [if_pos c1848] at h
    obtain rfl : b1847 = false := hb1847.symm.trans (bne_eq_false_iff_eq.2 c1848)
    refine VC.cond_f rfl ?_
    refine VC.skip ?_
    refine VN.then ?_
    refine VC.seq ?_
    refine VC.region ?_
    refine VL.va (op_assign rfl (ltn rfl)) rfl ?_
    refine VL.va (op_assign rfl (ltn rfl)) rfl ?_
    refine VL.done ?_
    refine VN.then ?_
    refine VC.join22 (fun (q28820 : Bool) (i28821 : Int) (s28822 : ByteArray) (i28823 : Int) (i28824 : Int) (i28825 : Int) (i28826 : Int) (i28827 : Int) (i28828 : Int) (q28829 : Bool) (i28830 : Int) (s28831 : ByteArray) (i28832 : Int) (i28833 : Int) (i28834 : Int) (i28835 : Int) (i28836 : Int) (i28837 : Int) (i28838 : Int) (i28839 : Int) (i28840 : Int) (q28841 : Bool) => ⟨216, [(0, .int .i64 (wrap64 (1 + ((wrap64 ((a0.tmod 50) + 50)).tmod 50)))), (8, .bool false), (9, .pointer (some ⟨g1844, 0, none⟩)), (12, .bool q28820)], [], [(g1844, 29, [.int .i64 i28821, .string s28822, .int .i64 i28823, .int .i64 i28824, .int .i64 i28825, .int .i64 i28826, .int .i64 i28827, .int .i64 i28828, .bool q28829, .int .i64 i28830, .string s28831, .int .i64 i28832, .int .i64 i28833, .int .i64 i28834, .int .i64 i28835, .int .i64 i28836, .int .i64 i28837, .int .i64 i28838, .int .i64 i28839, .int .i64 i28840, .bool q28841])], []⟩) (fun (q28820 : Bool) (i28821 : Int) (s28822 : ByteArray) (i28823 : Int) (i28824 : Int) (i28825 : Int) (i28826 : Int) (i28827 : Int) (i28828 : Int) (q28829 : Bool) (i28830 : Int) (s28831 : ByteArray) (i28832 : Int) (i28833 : Int) (i28834 : Int) (i28835 : Int) (i28836 : Int) (i28837 : Int) (i28838 : Int) (i28839 : Int) (i28840 : Int) (q28841 : Bool) => tarrylaw13_OrderEnds.j26 k a0 q28820 i28821 s28822 i28823 i28824 i28825 i28826 i28827 i28828 q28829 i28830 s28831 i28832 i28833 i28834 i28835 i28836 i28837 i28838 i28839 i28840 q28841 = some r1) ?_ ?_
    · refine VC.seq ?_
      refine VC.region ?_
      refine VL.va (op_move rfl (ltn rfl)) rfl ?_
      refine VL.va (op_len (m := l3.length) 0 lenm Try.underlying51 rfl rfl (ltn rfl)) rfl ?_
      refine VL.va (op_move rfl (ltn rfl)) rfl ?_
      refine VL.done ?_
      refine VN.then ?_
      refine VC.block ?_
      refine VC.loop25 (fun (q24173 : Bool) (i24174 : Int) (q24175 : Bool) (i24176 : Int) (i24177 : Int) (s24178 : ByteArray) (i24179 : Int) (i24180 : Int) (i24181 : Int) (i24182 : Int) (i24183 : Int) (i24184 : Int) (q24185 : Bool) (i24186 : Int) (s24187 : ByteArray) (i24188 : Int) (i24189 : Int) (i24190 : Int) (i24191 : Int) (i24192 : Int) (i24193 : Int) (i24194 : Int) (i24195 : Int) (i24196 : Int) (q24197 : Bool) => ⟨216, [(0, .int .i64 (wrap64 (1 + ((wrap64 ((a0.tmod 50) + 50)).tmod 50)))), (1, .int .i64 (wrap64 (1 + ((wrap64 ((a1.tmod 50) + 50)).tmod 50)))), (2, .bool q24173), (8, .bool false), (9, .pointer (some ⟨g1844, 0, none⟩)), (11, .int .i64 i24174), (12, .bool q24175), (49, v3), (50, .int .i64 (l3.length : Int)), (51, .int .i64 i24176)], [.row v3 2 (l3.map enc52)], [(g1844, 29, [.int .i64 i24177, .string s24178, .int .i64 i24179, .int .i64 i24180, .int .i64 i24181, .int .i64 i24182, .int .i64 i24183, .int .i64 i24184, .bool q24185, .int .i64 i24186, .string s24187, .int .i64 i24188, .int .i64 i24189, .int .i64 i24190, .int .i64 i24191, .int .i64 i24192, .int .i64 i24193, .int .i64 i24194, .int .i64 i24195, .int .i64 i24196, .bool q24197])], []⟩) (fun (ml27 : Nat) (q24173 : Bool) (i24174 : Int) (q24175 : Bool) (i24176 : Int) (i24177 : Int) (s24178 : ByteArray) (i24179 : Int) (i24180 : Int) (i24181 : Int) (i24182 : Int) (i24183 : Int) (i24184 : Int) (q24185 : Bool) (i24186 : Int) (s24187 : ByteArray) (i24188 : Int) (i24189 : Int) (i24190 : Int) (i24191 : Int) (i24192 : Int) (i24193 : Int) (i24194 : Int) (i24195 : Int) (i24196 : Int) (q24197 : Bool) => tarrylaw13_OrderEnds.l27 k a0 a1 l3 ml27 q24173 i24174 q24175 i24176 i24177 s24178 i24179 i24180 i24181 i24182 i24183 i24184 q24185 i24186 s24187 i24188 i24189 i24190 i24191 i24192 i24193 i24194 i24195 i24196 q24197 = some r1) k a2 0 false 0 t1821 t1822 t1823 t1824 t1825 t1826 t1827 t1828 t1829 t1830 t1831 t1832 t1833 t1834 t1835 t1836 t1837 t1838 t1839 t1840 t1841 [0] [] h ⟨rfl, ⟨rfl, rfl, rfl, rfl, rfl, rfl, rfl, rfl, rfl, rfl, trivial⟩, ⟨⟨0, rfl⟩, trivial⟩, rfl, by decide, rfl, by decide⟩ (by intros; simp [tarrylaw13_OrderEnds.l27]) ?_
      clear h
      intro ml27 ihl27 q24173 i24174 q24175 i24176 i24177 s24178 i24179 i24180 i24181 i24182 i24183 i24184 q24185 i24186 s24187 i24188 i24189 i24190 i24191 i24192 i24193 i24194 i24195 i24196 q24197 h
      simp only [tarrylaw13_OrderEnds.l27] at h
      refine VC.seq ?_
      refine VC.region ?_
      refine VL.letter (decide (i24176 < (l3.length : Int))) fun b26509 hb26509 => ?_
      refine VL.va (op_cmp rfl rfl (congrArg some hb26509) (ltn rfl)) rfl ?_
      refine VL.done ?_
      refine VN.then ?_
      refine VC.seq ?_
      by_cases c26511 : i24176 < (l3.length : Int)
      · rw [if_pos c26511] at h
        obtain rfl : b26509 = true := hb26509.symm.trans (decide_eq_true c26511)
        refine VC.cond_t rfl ?_
        refine VC.skip ?_
        refine VN.then ?_
        refine VC.seq ?_
        refine VC.block ?_
        refine VC.seq ?_
        refine VC.region ?_
        refine VL.va (op_move rfl (ltn rfl)) rfl ?_
        by_cases c27666 : 0 ≤ i24176
        · rw [if_pos c27666] at h
          replace h := Option.bind_eq_some_iff.1 h
          obtain ⟨x27667, hx27667, h⟩ := h
          refine VL.open (m := l3.length) 0 lenm rfl (pos_get hx27667) ?_
          rintro ad27668 n27669 rfl
          refine VL.va (op_indexAddr Try.underlying51 TI53 rfl rfl c27666 (lt_get c27666 hx27667) rfl (ltn rfl)) rfl ?_
          refine VL.va (op_load_row (o := 0) 0 i24176.toNat 2 rfl rfl (get_map hx27667) TI53 rfl (fun h => absurd h (by decide)) (ltn rfl)) rfl ?_
          refine VL.sG (o_alloc (us := [.int .i64 0, .int .i64 0]) Z53 rfl (ltn rfl)) rfl ?_
          intro g27670
          refine VL.va (op_assign rfl (ltn rfl)) rfl ?_
          refine VL.step1 (o_store 0 2 rfl rfl rfl TI53 (.agg (.c rfl (.c rfl .nil))) rfl (len rfl)) rfl ?_
          refine VL.done ?_
          refine VN.then ?_
          refine VC.seq ?_
          refine VC.seq ?_
          refine VC.region ?_
          refine VL.va (op_move rfl (ltn rfl)) rfl ?_
          refine VL.letter (decide (i24176 ≥ 30)) fun b27673 hb27673 => ?_
          refine VL.va (op_cmp rfl rfl (congrArg some hb27673) (ltn rfl)) rfl ?_
          refine VL.done ?_
          refine VN.then ?_
          by_cases c27674 : i24176 ≥ 30
          · rw [if_pos c27674] at h
            obtain rfl : b27673 = true := hb27673.symm.trans (decide_eq_true c27674)
            refine VC.cond_t rfl ?_
            refine VC.exit ?_
            refine VX.then ?_
            refine VX.miss (by decide) ?_
            refine VX.then ?_
            refine VX.then ?_
            refine VX.hit ?_
            refine VN.meet22 q24175 i24177 s24178 i24179 i24180 i24181 i24182 i24183 i24184 q24185 i24186 s24187 i24188 i24189 i24190 i24191 i24192 i24193 i24194 i24195 i24196 q24197 [1] [] h ⟨rfl, ⟨rfl, rfl, rfl, rfl, trivial⟩, trivial, rfl, by decide, rfl, by decide⟩
          · rw [if_neg c27674] at h
            obtain rfl : b27673 = false := hb27673.symm.trans (decide_eq_false c27674)
            refine VC.cond_f rfl ?_
            refine VC.skip ?_
            refine VN.then ?_
            refine VC.seq ?_
            refine VC.region ?_
            refine VL.va (op_load 1 21 rfl rfl TI29 rfl (fun h => absurd h (by decide)) (ltn rfl)) rfl ?_
            refine VL.sG (o_alloc (us := [.int .i64 0, .string (⟨#[]⟩ : ByteArray), .int .i64 0, .int .i64 0, .int .i64 0, .int .i64 0, .int .i64 0, .int .i64 0, .bool false, .int .i64 0, .string (⟨#[]⟩ : ByteArray), .int .i64 0, .int .i64 0, .int .i64 0, .int .i64 0, .int .i64 0, .int .i64 0, .int .i64 0, .int .i64 0, .int .i64 0, .bool false]) Z29 rfl (ltn rfl)) rfl ?_
            intro g27675
            refine VL.step1 (o_store 0 21 rfl rfl rfl TI29 (.agg (.c rfl (.c rfl (.c rfl (.c rfl (.c rfl (.c rfl (.c rfl (.c rfl (.c rfl (.c rfl (.c rfl (.c rfl (.c rfl (.c rfl (.c rfl (.c rfl (.c rfl (.c rfl (.c rfl (.c rfl (.c rfl .nil)))))))))))))))))))))) rfl (len rfl)) rfl ?_
            refine VL.done ?_
            refine VN.then ?_
            refine VC.join26 (fun (q28767 : Bool) (i28768 : Int) (q28769 : Bool) (q28770 : Bool) (q28771 : Bool) (i28772 : Int) (s28773 : ByteArray) (i28774 : Int) (i28775 : Int) (i28776 : Int) (i28777 : Int) (i28778 : Int) (i28779 : Int) (q28780 : Bool) (i28781 : Int) (s28782 : ByteArray) (i28783 : Int) (i28784 : Int) (i28785 : Int) (i28786 : Int) (i28787 : Int) (i28788 : Int) (i28789 : Int) (i28790 : Int) (i28791 : Int) (q28792 : Bool) => ⟨216, [(0, .int .i64 (wrap64 (1 + ((wrap64 ((a0.tmod 50) + 50)).tmod 50)))), (1, .int .i64 (wrap64 (1 + ((wrap64 ((a1.tmod 50) + 50)).tmod 50)))), (2, .bool q28767), (8, .bool false), (9, .pointer (some ⟨g1844, 0, none⟩)), (11, .int .i64 i28768), (12, .bool q28769), (13, .int .i64 i24176), (14, .pointer (some ⟨g27670, 0, none⟩)), (15, .pointer (some ⟨g27675, 0, none⟩)), (49, (.slice (some ad27668) l3.length n27669)), (50, .int .i64 (l3.length : Int)), (51, .int .i64 i24176), (52, .bool true), (53, .int .i64 i24176), (55, .agg #[.int .i64 x27667.f0, .int .i64 x27667.f1]), (56, .int .i64 i24176), (57, .bool false), (58, .agg #[.int .i64 i24177, .string s24178, .int .i64 i24179, .int .i64 i24180, .int .i64 i24181, .int .i64 i24182, .int .i64 i24183, .int .i64 i24184, .bool q24185, .int .i64 i24186, .string s24187, .int .i64 i24188, .int .i64 i24189, .int .i64 i24190, .int .i64 i24191, .int .i64 i24192, .int .i64 i24193, .int .i64 i24194, .int .i64 i24195, .int .i64 i24196, .bool q24197]), (59, .pointer (some ⟨g27670, 0, none⟩)), (60, .int .i64 x27667.f0), (61, .int .i64 (x27667.f0.tmod 3)), (62, .int .i64 (wrap64 ((x27667.f0.tmod 3) + 3))), (63, .int .i64 ((wrap64 ((x27667.f0.tmod 3) + 3)).tmod 3)), (72, .bool q28770), (73, .bool q28771)], [.row (.slice (some ad27668) l3.length n27669) 2 (l3.map enc52)], [(g27675, 29, [.int .i64 i24177, .string s24178, .int .i64 i24179, .int .i64 i24180, .int .i64 i24181, .int .i64 i24182, .int .i64 i24183, .int .i64 i24184, .bool q24185, .int .i64 i24186, .string s24187, .int .i64 i24188, .int .i64 i24189, .int .i64 i24190, .int .i64 i24191, .int .i64 i24192, .int .i64 i24193, .int .i64 i24194, .int .i64 i24195, .int .i64 i24196, .bool q24197]), (g27670, 53, [.int .i64 x27667.f0, .int .i64 x27667.f1]), (g1844, 29, [.int .i64 i28772, .string s28773, .int .i64 i28774, .int .i64 i28775, .int .i64 i28776, .int .i64 i28777, .int .i64 i28778, .int .i64 i28779, .bool q28780, .int .i64 i28781, .string s28782, .int .i64 i28783, .int .i64 i28784, .int .i64 i28785, .int .i64 i28786, .int .i64 i28787, .int .i64 i28788, .int .i64 i28789, .int .i64 i28790, .int .i64 i28791, .bool q28792])], []⟩) (fun (q28767 : Bool) (i28768 : Int) (q28769 : Bool) (q28770 : Bool) (q28771 : Bool) (i28772 : Int) (s28773 : ByteArray) (i28774 : Int) (i28775 : Int) (i28776 : Int) (i28777 : Int) (i28778 : Int) (i28779 : Int) (q28780 : Bool) (i28781 : Int) (s28782 : ByteArray) (i28783 : Int) (i28784 : Int) (i28785 : Int) (i28786 : Int) (i28787 : Int) (i28788 : Int) (i28789 : Int) (i28790 : Int) (i28791 : Int) (q28792 : Bool) => tarrylaw13_OrderEnds.j33 k (tarrylaw13_OrderEnds.l27 k a0 a1 l3 ml27) a0 a1 i24176 i24177 i24179 i24180 i24181 i24182 i24183 i24184 i24186 i24188 i24189 i24190 i24191 i24192 i24193 i24194 i24195 i24196 q24185 q24197 s24178 s24187 q28767 i28768 q28769 q28770 q28771 i28772 s28773 i28774 i28775 i28776 i28777 i28778 i28779 q28780 i28781 s28782 i28783 i28784 i28785 i28786 i28787 i28788 i28789 i28790 i28791 q28792 = some r1) ?_ ?_
            · refine VC.seq ?_
              refine VC.region ?_
              refine VL.va (op_fieldAddr FI53_0 rfl (add_at _ _ _) (ltn rfl)) rfl ?_
              refine VL.va (op_load 1 1 rfl rfl TI3 rfl (by decide) (ltn rfl)) rfl ?_
              refine VL.va (op_rem rfl rfl (by decide) rfl (ltn rfl)) rfl ?_
              refine VL.va (op_ari64 rfl rfl rfl (ltn rfl)) rfl ?_
              refine VL.va (op_rem rfl rfl (by decide) rfl (ltn rfl)) rfl ?_
              refine VL.done ?_
              refine VN.then ?_
              refine VC.block ?_
              refine VC.seq ?_
              refine VC.region ?_
              refine VL.letter ((((wrap64 ((x27667.f0.tmod 3) + 3)).tmod 3) == 0)) fun b28574 hb28574 => ?_
              refine VL.va (op_cmp rfl rfl (congrArg some hb28574) (ltn rfl)) rfl ?_
              refine VL.va (op_assign rfl (ltn rfl)) rfl ?_
              refine VL.done ?_
              refine VN.then ?_
              by_cases c28575 : ((wrap64 ((x27667.f0.tmod 3) + 3)).tmod 3) = 0
              · rw [if_pos c28575] at h
                obtain rfl : b28574 = true := hb28574.symm.trans (beq_iff_eq.2 c28575)
                refine VC.cond_t rfl ?_
                refine VC.seq ?_
                refine VC.region ?_
                refine VL.va (op_load 2 21 rfl rfl TI29 rfl (fun h => absurd h (by decide)) (ltn rfl)) rfl ?_
                refine VL.va (op_fieldAddr FI53_1 rfl (add_at _ _ _) (ltn rfl)) rfl ?_
                refine VL.va (op_load 1 1 rfl rfl TI3 rfl (by decide) (ltn rfl)) rfl ?_
                replace h := Option.bind_eq_some_iff.1 h
                obtain ⟨t28576, hA28577, h⟩ := h
                refine VL.sC (o_call0 FO15 (order_Wants.ok k i24177 s24178 i24179 i24180 i24181 i24182 i24183 i24184 q24185 i24186 s24187 i24188 i24189 i24190 i24191 i24192 i24193 i24194 i24195 i24196 q24197 x27667.f1 5 t28576 hA28577) rfl rfl (ltn rfl) (All_of .nil)) rfl ?_
                rintro _ _ _ ⟨rfl, rfl, rfl⟩
                refine VL.va (op_assign rfl (ltn rfl)) rfl ?_
                refine VL.done ?_
                refine VN.then ?_
                refine VC.seq ?_
                refine VC.seq ?_
                refine VC.region ?_
                refine VL.va (op_move rfl (ltn rfl)) rfl ?_
                refine VL.letter (decide (t28576 > 0)) fun b28615 hb28615 => ?_
                refine VL.va (op_cmp rfl rfl (congrArg some hb28615) (ltn rfl)) rfl ?_
                refine VL.va (op_move rfl (ltn rfl)) rfl ?_
                by_cases c28616 : t28576 > 0
                · rw [if_pos c28616] at h
                  obtain rfl : b28615 = true := hb28615.symm.trans (decide_eq_true c28616)
                  refine VL.va (op_move rfl (ltn rfl)) rfl ?_
                  refine VL.va (op_fieldAddr FI53_1 rfl (add_at _ _ _) (ltn rfl)) rfl ?_
                  refine VL.va (op_load 1 1 rfl rfl TI3 rfl (by decide) (ltn rfl)) rfl ?_
                  refine VL.letter (decide (t28576 > x27667.f1)) fun b28617 hb28617 => ?_
                  refine VL.va (op_cmp rfl rfl (congrArg some hb28617) (ltn rfl)) rfl ?_
                  refine VL.va (op_move rfl (ltn rfl)) rfl ?_
                  by_cases c28618 : t28576 > x27667.f1
                  · rw [if_pos c28618] at h
                    obtain rfl : b28617 = true := hb28617.symm.trans (decide_eq_true c28618)
                    refine VL.un rfl rfl (ltn rfl) ?_
                    refine VL.un rfl rfl (ltn rfl) ?_
                    refine VL.un rfl rfl (ltn rfl) ?_
                    refine VL.un rfl rfl (ltn rfl) ?_
                    refine VL.va (op_pick rfl rfl (ltn rfl)) rfl ?_
                    refine VL.va (op_move rfl (ltn rfl)) rfl ?_
                    refine VL.un rfl rfl (ltn rfl) ?_
                    refine VL.un rfl rfl (ltn rfl) ?_
                    refine VL.un rfl rfl (ltn rfl) ?_
                    refine VL.un rfl rfl (ltn rfl) ?_
                    refine VL.un rfl rfl (ltn rfl) ?_
                    refine VL.un rfl rfl (ltn rfl) ?_
                    refine VL.un rfl rfl (ltn rfl) ?_
                    refine VL.un rfl rfl (ltn rfl) ?_
                    refine VL.va (op_pick rfl rfl (ltn rfl)) rfl ?_
                    refine VL.va (op_pick rfl rfl (ltn rfl)) rfl ?_
                    refine VL.done ?_
                    refine VN.then ?_
                    refine VC.cond_t rfl ?_
                    refine VC.seq ?_
                    refine VC.region ?_
                    refine VL.va (op_assign rfl (ltn rfl)) rfl ?_
                    refine VL.done ?_
                    refine VN.then ?_
                    refine VC.ret ?_
                    refine VR.then ?_
                    refine VR.block ?_
                    refine VR.then ?_
                    refine VR.block ?_
                    refine VR.then ?_
                    refine VR.then ?_
                    refine VR.block ?_
                    refine VR.then ?_
                    cases h
                  · rw [if_neg c28618] at h
                    obtain rfl : b28617 = false := hb28617.symm.trans (decide_eq_false c28618)
                    refine VL.va (op_move rfl (ltn rfl)) rfl ?_
                    refine VL.va (op_load 2 21 rfl rfl TI29 rfl (fun h => absurd h (by decide)) (ltn rfl)) rfl ?_
                    replace h := Option.bind_eq_some_iff.1 h
                    obtain ⟨t28619, hA28620, h⟩ := h
                    refine VL.sC (o_call0 FO13 (order_Lack.ok k i24177 s24178 i24179 i24180 i24181 i24182 i24183 i24184 q24185 i24186 s24187 i24188 i24189 i24190 i24191 i24192 i24193 i24194 i24195 i24196 q24197 t28619 hA28620) rfl rfl (ltn rfl) (All_of .nil)) rfl ?_
                    rintro _ _ _ ⟨rfl, rfl, rfl⟩
                    refine VL.letter (decide (t28576 > t28619)) fun b28621 hb28621 => ?_
                    refine VL.va (op_cmp rfl rfl (congrArg some hb28621) (ltn rfl)) rfl ?_
                    refine VL.va (op_pick rfl rfl (ltn rfl)) rfl ?_
                    refine VL.va (op_move rfl (ltn rfl)) rfl ?_
                    by_cases c28622 : t28576 > t28619
                    · rw [if_pos c28622] at h
                      obtain rfl : b28621 = true := hb28621.symm.trans (decide_eq_true c28622)
                      refine VL.un rfl rfl (ltn rfl) ?_
                      refine VL.un rfl rfl (ltn rfl) ?_
                      refine VL.un rfl rfl (ltn rfl) ?_
                      refine VL.un rfl rfl (ltn rfl) ?_
                      refine VL.un rfl rfl (ltn rfl) ?_
                      refine VL.un rfl rfl (ltn rfl) ?_
                      refine VL.un rfl rfl (ltn rfl) ?_
                      refine VL.un rfl rfl (ltn rfl) ?_
                      refine VL.va (op_pick rfl rfl (ltn rfl)) rfl ?_
                      refine VL.va (op_pick rfl rfl (ltn rfl)) rfl ?_
                      refine VL.done ?_
                      refine VN.then ?_
                      refine VC.cond_t rfl ?_
                      refine VC.seq ?_
                      refine VC.region ?_
                      refine VL.va (op_assign rfl (ltn rfl)) rfl ?_
                      refine VL.done ?_
                      refine VN.then ?_
                      refine VC.ret ?_
                      refine VR.then ?_
                      refine VR.block ?_
                      refine VR.then ?_
                      refine VR.block ?_
                      refine VR.then ?_
                      refine VR.then ?_
                      refine VR.block ?_
                      refine VR.then ?_
                      cases h
                    · rw [if_neg c28622] at h
                      obtain rfl : b28621 = false := hb28621.symm.trans (decide_eq_false c28622)
                      refine VL.va (op_move rfl (ltn rfl)) rfl ?_
                      by_cases c28623 : q24173 = true
                      · rw [if_pos c28623] at h
                        obtain rfl := c28623
                        refine VL.va (op_not rfl rfl (ltn rfl)) rfl ?_
                        refine VL.va (op_move rfl (ltn rfl)) rfl ?_
                        refine VL.un rfl rfl (ltn rfl) ?_
                        refine VL.un rfl rfl (ltn rfl) ?_
                        refine VL.un rfl rfl (ltn rfl) ?_
                        refine VL.un rfl rfl (ltn rfl) ?_
                        refine VL.va (op_pick rfl rfl (ltn rfl)) rfl ?_
                        refine VL.va (op_pick rfl rfl (ltn rfl)) rfl ?_
                        refine VL.va (op_pick rfl rfl (ltn rfl)) rfl ?_
                        refine VL.done ?_
                        refine VN.then ?_
                        refine VC.cond_f rfl ?_
                        refine VC.skip ?_
                        refine VN.then ?_
                        refine VC.seq ?_
                        refine VC.region ?_
                        refine VL.va (op_load 2 21 rfl rfl TI29 rfl (fun h => absurd h (by decide)) (ltn rfl)) rfl ?_
                        refine VL.va (op_move rfl (ltn rfl)) rfl ?_
                        refine VL.va (op_move rfl (ltn rfl)) rfl ?_
                        refine VL.va (op_move rfl (ltn rfl)) rfl ?_
                        refine VL.va (op_ari64 rfl rfl rfl (ltn rfl)) rfl ?_
                        refine VL.va (op_build (vals := [(0, .string (⟨#[99, 117, 112]⟩ : ByteArray)), (1, .int .i64 t28576), (2, .int .i64 t28576), (3, .int .i64 (wrap64 (i24176 + 1)))]) (vcs := [(0, [.string (⟨#[99, 117, 112]⟩ : ByteArray)]), (1, [.int .i64 t28576]), (2, [.int .i64 t28576]), (3, [.int .i64 (wrap64 (i24176 + 1))])]) (cells := [.string (⟨#[99, 117, 112]⟩ : ByteArray), .int .i64 t28576, .int .i64 t28576, .int .i64 (wrap64 (i24176 + 1))]) SI23 rfl (.cons ⟨rfl, (.c rfl)⟩ (.cons ⟨rfl, (.c rfl)⟩ (.cons ⟨rfl, (.c rfl)⟩ (.cons ⟨rfl, (.c rfl)⟩ .nil)))) (by kernel_rfl) (ltn rfl)) rfl ?_
                        replace h := Option.bind_eq_some_iff.1 h
                        obtain ⟨⟨t28624, t28625, t28626, t28627, t28628, t28629, t28630, t28631, t28632, t28633, t28634, t28635, t28636, t28637, t28638, t28639, t28640, t28641, t28642, t28643, t28644, t28645⟩, hA28646, h⟩ := h
                        dsimp only at h
                        refine VL.sC (o_call0 FO17 (order_Send.ok k i24177 s24178 i24179 i24180 i24181 i24182 i24183 i24184 q24185 i24186 s24187 i24188 i24189 i24190 i24191 i24192 i24193 i24194 i24195 i24196 q24197 (⟨#[99, 117, 112]⟩ : ByteArray) t28576 t28576 (wrap64 (i24176 + 1)) t28624 t28625 t28626 t28627 t28628 t28629 t28630 t28631 t28632 t28633 t28634 t28635 t28636 t28637 t28638 t28639 t28640 t28641 t28642 t28643 t28644 t28645 hA28646) rfl rfl (ltn rfl) (All_of .nil)) rfl ?_
                        rintro _ _ _ ⟨rfl, rfl, rfl⟩
                        refine VL.va (op_move rfl (ltn rfl)) rfl ?_
                        refine VL.va (op_extract rfl rfl (ltn rfl)) rfl ?_
                        refine VL.va (op_extract rfl rfl (ltn rfl)) rfl ?_
                        refine VL.sG (o_alloc (us := [.int .i64 0, .string (⟨#[]⟩ : ByteArray), .int .i64 0, .int .i64 0, .int .i64 0, .int .i64 0, .int .i64 0, .int .i64 0, .bool false, .int .i64 0, .string (⟨#[]⟩ : ByteArray), .int .i64 0, .int .i64 0, .int .i64 0, .int .i64 0, .int .i64 0, .int .i64 0, .int .i64 0, .int .i64 0, .int .i64 0, .bool false]) Z29 rfl (ltn rfl)) rfl ?_
                        intro g28647
                        refine VL.step1 (o_store 0 21 rfl rfl rfl TI29 (.agg (.c rfl (.c rfl (.c rfl (.c rfl (.c rfl (.c rfl (.c rfl (.c rfl (.c rfl (.c rfl (.c rfl (.c rfl (.c rfl (.c rfl (.c rfl (.c rfl (.c rfl (.c rfl (.c rfl (.c rfl (.c rfl .nil)))))))))))))))))))))) rfl (len rfl)) rfl ?_
                        refine VL.va (op_assign rfl (ltn rfl)) rfl ?_
                        refine VL.done ?_
                        refine VN.then ?_
                        refine VC.seq ?_
                        refine VC.region ?_
                        refine VL.va (op_move rfl (ltn rfl)) rfl ?_
                        refine VL.letter ((t28645 == 0)) fun b28648 hb28648 => ?_
                        refine VL.va (op_cmp rfl rfl (congrArg some hb28648) (ltn rfl)) rfl ?_
                        refine VL.done ?_
                        refine VN.then ?_
                        by_cases c28649 : t28645 = 0
                        · rw [if_pos c28649] at h
                          obtain rfl : b28648 = true := hb28648.symm.trans (beq_iff_eq.2 c28649)
                          refine VC.cond_t rfl ?_
                          refine VC.region ?_
                          refine VL.va (op_load 0 21 rfl rfl TI29 rfl (fun h => absurd h (by decide)) (ltn rfl)) rfl ?_
                          refine VL.step1 (o_store 3 21 rfl rfl rfl TI29 (.agg (.c rfl (.c rfl (.c rfl (.c rfl (.c rfl (.c rfl (.c rfl (.c rfl (.c rfl (.c rfl (.c rfl (.c rfl (.c rfl (.c rfl (.c rfl (.c rfl (.c rfl (.c rfl (.c rfl (.c rfl (.c rfl .nil)))))))))))))))))))))) rfl (len rfl)) rfl ?_
                          refine VL.done ?_
                          refine VN.block ?_
                          refine VN.meet26 true i24174 q24175 true true t28624 t28625 t28626 t28627 t28628 t28629 t28630 t28631 t28632 t28633 t28634 t28635 t28636 t28637 t28638 t28639 t28640 t28641 t28642 t28643 t28644 [1, 2, 3] [] h ⟨rfl, ⟨rfl, rfl, rfl, rfl, rfl, rfl, rfl, rfl, rfl, rfl, rfl, rfl, rfl, rfl, rfl, rfl, rfl, rfl, rfl, rfl, rfl, rfl, rfl, rfl, rfl, rfl, trivial⟩, ⟨⟨0, rfl⟩, trivial⟩, rfl, by decide, rfl, by decide⟩
                        · rw [if_neg c28649] at h
                          obtain rfl : b28648 = false := hb28648.symm.trans (beq_eq_false_iff_ne.2 c28649)
                          refine VC.cond_f rfl ?_
                          refine VC.seq ?_
                          refine VC.region ?_
                          refine VL.va (op_move rfl (ltn rfl)) rfl ?_
                          refine VL.letter (decide (t28576 > 0)) fun b28650 hb28650 => ?_
                          refine VL.va (op_cmp rfl rfl (congrArg some hb28650) (ltn rfl)) rfl ?_
                          refine VL.done ?_
                          refine VN.then ?_
                          by_cases c28651 : t28576 > 0
                          · rw [if_pos c28651] at h
                            obtain rfl : b28650 = true := hb28650.symm.trans (decide_eq_true c28651)
                            refine VC.cond_t rfl ?_
                            refine VC.seq ?_
                            refine VC.region ?_
                            refine VL.va (op_assign rfl (ltn rfl)) rfl ?_
                            refine VL.done ?_
                            refine VN.then ?_
                            refine VC.ret ?_
                            refine VR.block ?_
                            refine VR.then ?_
                            refine VR.block ?_
                            refine VR.then ?_
                            refine VR.then ?_
                            refine VR.block ?_
                            refine VR.then ?_
                            cases h
                          · rw [if_neg c28651] at h
                            obtain rfl : b28650 = false := hb28650.symm.trans (decide_eq_false c28651)
                            refine VC.cond_f rfl ?_
                            refine VC.skip ?_
                            refine VN.block ?_
                            refine VN.meet26 true i24174 q24175 true true i24177 s24178 i24179 i24180 i24181 i24182 i24183 i24184 q24185 i24186 s24187 i24188 i24189 i24190 i24191 i24192 i24193 i24194 i24195 i24196 q24197 [1, 2, 3] [] h ⟨rfl, ⟨rfl, rfl, rfl, rfl, rfl, rfl, rfl, rfl, rfl, rfl, rfl, rfl, rfl, rfl, rfl, rfl, rfl, rfl, rfl, rfl, rfl, rfl, rfl, rfl, rfl, rfl, trivial⟩, ⟨⟨0, rfl⟩, trivial⟩, rfl, by decide, rfl, by decide⟩
                      · rw [if_neg c28623] at h
                        obtain rfl := Bool.eq_false_iff.2 c28623
                        refine VL.va (op_not rfl rfl (ltn rfl)) rfl ?_
                        refine VL.va (op_move rfl (ltn rfl)) rfl ?_
                        refine VL.va (op_move rfl (ltn rfl)) rfl ?_
                        refine VL.va (op_load 2 21 rfl rfl TI29 rfl (fun h => absurd h (by decide)) (ltn rfl)) rfl ?_
                        replace h := Option.bind_eq_some_iff.1 h
                        obtain ⟨t28652, hA28653, h⟩ := h
                        refine VL.sC (o_call0 FO13 (order_Lack.ok k i24177 s24178 i24179 i24180 i24181 i24182 i24183 i24184 q24185 i24186 s24187 i24188 i24189 i24190 i24191 i24192 i24193 i24194 i24195 i24196 q24197 t28652 hA28653) rfl rfl (ltn rfl) (All_of .nil)) rfl ?_
                        rintro _ _ _ ⟨rfl, rfl, rfl⟩
                        refine VL.letter ((t28576 != t28652)) fun b28654 hb28654 => ?_
                        refine VL.va (op_cmp rfl rfl (congrArg some hb28654) (ltn rfl)) rfl ?_
                        refine VL.va (op_pick rfl rfl (ltn rfl)) rfl ?_
                        refine VL.va (op_pick rfl rfl (ltn rfl)) rfl ?_
                        refine VL.va (op_pick rfl rfl (ltn rfl)) rfl ?_
                        refine VL.done ?_
                        refine VN.then ?_
                        by_cases c28655 : t28576 = t28652
                        · rw [if_pos c28655] at h
                          obtain rfl : b28654 = false := hb28654.symm.trans (bne_eq_false_iff_eq.2 c28655)
                          refine VC.cond_f rfl ?_
                          refine VC.skip ?_
                          refine VN.then ?_
                          refine VC.seq ?_
                          refine VC.region ?_
                          refine VL.va (op_load 2 21 rfl rfl TI29 rfl (fun h => absurd h (by decide)) (ltn rfl)) rfl ?_
                          refine VL.va (op_move rfl (ltn rfl)) rfl ?_
                          refine VL.va (op_move rfl (ltn rfl)) rfl ?_
                          refine VL.va (op_move rfl (ltn rfl)) rfl ?_
                          refine VL.va (op_ari64 rfl rfl rfl (ltn rfl)) rfl ?_
                          refine VL.va (op_build (vals := [(0, .string (⟨#[99, 117, 112]⟩ : ByteArray)), (1, .int .i64 t28576), (2, .int .i64 t28576), (3, .int .i64 (wrap64 (i24176 + 1)))]) (vcs := [(0, [.string (⟨#[99, 117, 112]⟩ : ByteArray)]), (1, [.int .i64 t28576]), (2, [.int .i64 t28576]), (3, [.int .i64 (wrap64 (i24176 + 1))])]) (cells := [.string (⟨#[99, 117, 112]⟩ : ByteArray), .int .i64 t28576, .int .i64 t28576, .int .i64 (wrap64 (i24176 + 1))]) SI23 rfl (.cons ⟨rfl, (.c rfl)⟩ (.cons ⟨rfl, (.c rfl)⟩ (.cons ⟨rfl, (.c rfl)⟩ (.cons ⟨rfl, (.c rfl)⟩ .nil)))) (by kernel_rfl) (ltn rfl)) rfl ?_
                          replace h := Option.bind_eq_some_iff.1 h
                          obtain ⟨⟨t28656, t28657, t28658, t28659, t28660, t28661, t28662, t28663, t28664, t28665, t28666, t28667, t28668, t28669, t28670, t28671, t28672, t28673, t28674, t28675, t28676, t28677⟩, hA28678, h⟩ := h
                          dsimp only at h
                          refine VL.sC (o_call0 FO17 (order_Send.ok k i24177 s24178 i24179 i24180 i24181 i24182 i24183 i24184 q24185 i24186 s24187 i24188 i24189 i24190 i24191 i24192 i24193 i24194 i24195 i24196 q24197 (⟨#[99, 117, 112]⟩ : ByteArray) t28576 t28576 (wrap64 (i24176 + 1)) t28656 t28657 t28658 t28659 t28660 t28661 t28662 t28663 t28664 t28665 t28666 t28667 t28668 t28669 t28670 t28671 t28672 t28673 t28674 t28675 t28676 t28677 hA28678) rfl rfl (ltn rfl) (All_of .nil)) rfl ?_
                          rintro _ _ _ ⟨rfl, rfl, rfl⟩
                          refine VL.va (op_move rfl (ltn rfl)) rfl ?_
                          refine VL.va (op_extract rfl rfl (ltn rfl)) rfl ?_
                          refine VL.va (op_extract rfl rfl (ltn rfl)) rfl ?_
                          refine VL.sG (o_alloc (us := [.int .i64 0, .string (⟨#[]⟩ : ByteArray), .int .i64 0, .int .i64 0, .int .i64 0, .int .i64 0, .int .i64 0, .int .i64 0, .bool false, .int .i64 0, .string (⟨#[]⟩ : ByteArray), .int .i64 0, .int .i64 0, .int .i64 0, .int .i64 0, .int .i64 0, .int .i64 0, .int .i64 0, .int .i64 0, .int .i64 0, .bool false]) Z29 rfl (ltn rfl)) rfl ?_
                          intro g28679
                          refine VL.step1 (o_store 0 21 rfl rfl rfl TI29 (.agg (.c rfl (.c rfl (.c rfl (.c rfl (.c rfl (.c rfl (.c rfl (.c rfl (.c rfl (.c rfl (.c rfl (.c rfl (.c rfl (.c rfl (.c rfl (.c rfl (.c rfl (.c rfl (.c rfl (.c rfl (.c rfl .nil)))))))))))))))))))))) rfl (len rfl)) rfl ?_
                          refine VL.va (op_assign rfl (ltn rfl)) rfl ?_
                          refine VL.done ?_
                          refine VN.then ?_
                          refine VC.seq ?_
                          refine VC.region ?_
                          refine VL.va (op_move rfl (ltn rfl)) rfl ?_
                          refine VL.letter ((t28677 == 0)) fun b28680 hb28680 => ?_
                          refine VL.va (op_cmp rfl rfl (congrArg some hb28680) (ltn rfl)) rfl ?_
                          refine VL.done ?_
                          refine VN.then ?_
                          by_cases c28681 : t28677 = 0
                          · rw [if_pos c28681] at h
                            obtain rfl : b28680 = true := hb28680.symm.trans (beq_iff_eq.2 c28681)
                            refine VC.cond_t rfl ?_
                            refine VC.region ?_
                            refine VL.va (op_load 0 21 rfl rfl TI29 rfl (fun h => absurd h (by decide)) (ltn rfl)) rfl ?_
                            refine VL.step1 (o_store 3 21 rfl rfl rfl TI29 (.agg (.c rfl (.c rfl (.c rfl (.c rfl (.c rfl (.c rfl (.c rfl (.c rfl (.c rfl (.c rfl (.c rfl (.c rfl (.c rfl (.c rfl (.c rfl (.c rfl (.c rfl (.c rfl (.c rfl (.c rfl (.c rfl .nil)))))))))))))))))))))) rfl (len rfl)) rfl ?_
                            refine VL.done ?_
                            refine VN.block ?_
                            refine VN.meet26 false i24174 q24175 true true t28656 t28657 t28658 t28659 t28660 t28661 t28662 t28663 t28664 t28665 t28666 t28667 t28668 t28669 t28670 t28671 t28672 t28673 t28674 t28675 t28676 [1, 2, 3] [] h ⟨rfl, ⟨rfl, rfl, rfl, rfl, rfl, rfl, rfl, rfl, rfl, rfl, rfl, rfl, rfl, rfl, rfl, rfl, rfl, rfl, rfl, rfl, rfl, rfl, rfl, rfl, rfl, rfl, trivial⟩, ⟨⟨0, rfl⟩, trivial⟩, rfl, by decide, rfl, by decide⟩
                          · rw [if_neg c28681] at h
                            obtain rfl : b28680 = false := hb28680.symm.trans (beq_eq_false_iff_ne.2 c28681)
                            refine VC.cond_f rfl ?_
                            refine VC.seq ?_
                            refine VC.region ?_
                            refine VL.va (op_move rfl (ltn rfl)) rfl ?_
                            refine VL.letter (decide (t28576 > 0)) fun b28682 hb28682 => ?_
                            refine VL.va (op_cmp rfl rfl (congrArg some hb28682) (ltn rfl)) rfl ?_
                            refine VL.done ?_
                            refine VN.then ?_
                            by_cases c28683 : t28576 > 0
                            · rw [if_pos c28683] at h
                              obtain rfl : b28682 = true := hb28682.symm.trans (decide_eq_true c28683)
                              refine VC.cond_t rfl ?_
                              refine VC.seq ?_
                              refine VC.region ?_
                              refine VL.va (op_assign rfl (ltn rfl)) rfl ?_
                              refine VL.done ?_
                              refine VN.then ?_
                              refine VC.ret ?_
                              refine VR.block ?_
                              refine VR.then ?_
                              refine VR.block ?_
                              refine VR.then ?_
                              refine VR.then ?_
                              refine VR.block ?_
                              refine VR.then ?_
                              cases h
                            · rw [if_neg c28683] at h
                              obtain rfl : b28682 = false := hb28682.symm.trans (decide_eq_false c28683)
                              refine VC.cond_f rfl ?_
                              refine VC.skip ?_
                              refine VN.block ?_
                              refine VN.meet26 false i24174 q24175 true true i24177 s24178 i24179 i24180 i24181 i24182 i24183 i24184 q24185 i24186 s24187 i24188 i24189 i24190 i24191 i24192 i24193 i24194 i24195 i24196 q24197 [1, 2, 3] [] h ⟨rfl, ⟨rfl, rfl, rfl, rfl, rfl, rfl, rfl, rfl, rfl, rfl, rfl, rfl, rfl, rfl, rfl, rfl, rfl, rfl, rfl, rfl, rfl, rfl, rfl, rfl, rfl, rfl, trivial⟩, ⟨⟨0, rfl⟩, trivial⟩, rfl, by decide, rfl, by decide⟩
                        · rw [if_neg c28655] at h
                          obtain rfl : b28654 = true := hb28654.symm.trans (bne_iff_ne.2 c28655)
                          refine VC.cond_t rfl ?_
                          refine VC.seq ?_
                          refine VC.region ?_
                          refine VL.va (op_assign rfl (ltn rfl)) rfl ?_
                          refine VL.done ?_
                          refine VN.then ?_
                          refine VC.ret ?_
                          refine VR.then ?_
                          refine VR.block ?_
                          refine VR.then ?_
                          refine VR.block ?_
                          refine VR.then ?_
                          refine VR.then ?_
                          refine VR.block ?_
                          refine VR.then ?_
                          cases h
                · rw [if_neg c28616] at h
                  obtain rfl : b28615 = false := hb28615.symm.trans (decide_eq_false c28616)
                  refine VL.un rfl rfl (ltn rfl) ?_
                  refine VL.un rfl rfl (ltn rfl) ?_
                  refine VL.un rfl rfl (ltn rfl) ?_
                  refine VL.un rfl rfl (ltn rfl) ?_
                  refine VL.un rfl rfl (ltn rfl) ?_
                  refine VL.un rfl rfl (ltn rfl) ?_
                  refine VL.un rfl rfl (ltn rfl) ?_
                  refine VL.un rfl rfl (ltn rfl) ?_
                  refine VL.un rfl rfl (ltn rfl) ?_
                  refine VL.un rfl rfl (ltn rfl) ?_
                  refine VL.un rfl rfl (ltn rfl) ?_
                  refine VL.un rfl rfl (ltn rfl) ?_
                  refine VL.un rfl rfl (ltn rfl) ?_
                  refine VL.un rfl rfl (ltn rfl) ?_
                  refine VL.un rfl rfl (ltn rfl) ?_
                  refine VL.un rfl rfl (ltn rfl) ?_
                  refine VL.un rfl rfl (ltn rfl) ?_
                  refine VL.un rfl rfl (ltn rfl) ?_
                  refine VL.un rfl rfl (ltn rfl) ?_
                  refine VL.un rfl rfl (ltn rfl) ?_
                  refine VL.va (op_pick rfl rfl (ltn rfl)) rfl ?_
                  refine VL.done ?_
                  refine VN.then ?_
                  refine VC.cond_f rfl ?_
                  refine VC.skip ?_
                  refine VN.then ?_
                  refine VC.seq ?_
                  refine VC.region ?_
                  refine VL.va (op_load 2 21 rfl rfl TI29 rfl (fun h => absurd h (by decide)) (ltn rfl)) rfl ?_
                  refine VL.va (op_move rfl (ltn rfl)) rfl ?_
                  refine VL.va (op_move rfl (ltn rfl)) rfl ?_
                  refine VL.va (op_move rfl (ltn rfl)) rfl ?_
                  refine VL.va (op_ari64 rfl rfl rfl (ltn rfl)) rfl ?_
                  refine VL.va (op_build (vals := [(0, .string (⟨#[99, 117, 112]⟩ : ByteArray)), (1, .int .i64 t28576), (2, .int .i64 t28576), (3, .int .i64 (wrap64 (i24176 + 1)))]) (vcs := [(0, [.string (⟨#[99, 117, 112]⟩ : ByteArray)]), (1, [.int .i64 t28576]), (2, [.int .i64 t28576]), (3, [.int .i64 (wrap64 (i24176 + 1))])]) (cells := [.string (⟨#[99, 117, 112]⟩ : ByteArray), .int .i64 t28576, .int .i64 t28576, .int .i64 (wrap64 (i24176 + 1))]) SI23 rfl (.cons ⟨rfl, (.c rfl)⟩ (.cons ⟨rfl, (.c rfl)⟩ (.cons ⟨rfl, (.c rfl)⟩ (.cons ⟨rfl, (.c rfl)⟩ .nil)))) (by kernel_rfl) (ltn rfl)) rfl ?_
                  replace h := Option.bind_eq_some_iff.1 h
                  obtain ⟨⟨t28684, t28685, t28686, t28687, t28688, t28689, t28690, t28691, t28692, t28693, t28694, t28695, t28696, t28697, t28698, t28699, t28700, t28701, t28702, t28703, t28704, t28705⟩, hA28706, h⟩ := h
                  dsimp only at h
                  refine VL.sC (o_call0 FO17 (order_Send.ok k i24177 s24178 i24179 i24180 i24181 i24182 i24183 i24184 q24185 i24186 s24187 i24188 i24189 i24190 i24191 i24192 i24193 i24194 i24195 i24196 q24197 (⟨#[99, 117, 112]⟩ : ByteArray) t28576 t28576 (wrap64 (i24176 + 1)) t28684 t28685 t28686 t28687 t28688 t28689 t28690 t28691 t28692 t28693 t28694 t28695 t28696 t28697 t28698 t28699 t28700 t28701 t28702 t28703 t28704 t28705 hA28706) rfl rfl (ltn rfl) (All_of .nil)) rfl ?_
                  rintro _ _ _ ⟨rfl, rfl, rfl⟩
                  refine VL.va (op_move rfl (ltn rfl)) rfl ?_
                  refine VL.va (op_extract rfl rfl (ltn rfl)) rfl ?_
                  refine VL.va (op_extract rfl rfl (ltn rfl)) rfl ?_
                  refine VL.sG (o_alloc (us := [.int .i64 0, .string (⟨#[]⟩ : ByteArray), .int .i64 0, .int .i64 0, .int .i64 0, .int .i64 0, .int .i64 0, .int .i64 0, .bool false, .int .i64 0, .string (⟨#[]⟩ : ByteArray), .int .i64 0, .int .i64 0, .int .i64 0, .int .i64 0, .int .i64 0, .int .i64 0, .int .i64 0, .int .i64 0, .int .i64 0, .bool false]) Z29 rfl (ltn rfl)) rfl ?_
                  intro g28707
                  refine VL.step1 (o_store 0 21 rfl rfl rfl TI29 (.agg (.c rfl (.c rfl (.c rfl (.c rfl (.c rfl (.c rfl (.c rfl (.c rfl (.c rfl (.c rfl (.c rfl (.c rfl (.c rfl (.c rfl (.c rfl (.c rfl (.c rfl (.c rfl (.c rfl (.c rfl (.c rfl .nil)))))))))))))))))))))) rfl (len rfl)) rfl ?_
                  refine VL.va (op_assign rfl (ltn rfl)) rfl ?_
                  refine VL.done ?_
                  refine VN.then ?_
                  refine VC.seq ?_
                  refine VC.region ?_
                  refine VL.va (op_move rfl (ltn rfl)) rfl ?_
                  refine VL.letter ((t28705 == 0)) fun b28708 hb28708 => ?_
                  refine VL.va (op_cmp rfl rfl (congrArg some hb28708) (ltn rfl)) rfl ?_
                  refine VL.done ?_
                  refine VN.then ?_
                  by_cases c28709 : t28705 = 0
                  · rw [if_pos c28709] at h
                    obtain rfl : b28708 = true := hb28708.symm.trans (beq_iff_eq.2 c28709)
                    refine VC.cond_t rfl ?_
                    refine VC.region ?_
                    refine VL.va (op_load 0 21 rfl rfl TI29 rfl (fun h => absurd h (by decide)) (ltn rfl)) rfl ?_
                    refine VL.step1 (o_store 3 21 rfl rfl rfl TI29 (.agg (.c rfl (.c rfl (.c rfl (.c rfl (.c rfl (.c rfl (.c rfl (.c rfl (.c rfl (.c rfl (.c rfl (.c rfl (.c rfl (.c rfl (.c rfl (.c rfl (.c rfl (.c rfl (.c rfl (.c rfl (.c rfl .nil)))))))))))))))))))))) rfl (len rfl)) rfl ?_
                    refine VL.done ?_
                    refine VN.block ?_
                    refine VN.meet26 q24173 i24174 q24175 true true t28684 t28685 t28686 t28687 t28688 t28689 t28690 t28691 t28692 t28693 t28694 t28695 t28696 t28697 t28698 t28699 t28700 t28701 t28702 t28703 t28704 [1, 2, 3] [] h ⟨rfl, ⟨rfl, rfl, rfl, rfl, rfl, rfl, rfl, rfl, rfl, rfl, rfl, rfl, rfl, rfl, rfl, rfl, rfl, rfl, rfl, rfl, rfl, rfl, rfl, rfl, rfl, rfl, trivial⟩, ⟨⟨0, rfl⟩, trivial⟩, rfl, by decide, rfl, by decide⟩
                  · rw [if_neg c28709] at h
                    obtain rfl : b28708 = false := hb28708.symm.trans (beq_eq_false_iff_ne.2 c28709)
                    refine VC.cond_f rfl ?_
                    refine VC.seq ?_
                    refine VC.region ?_
                    refine VL.va (op_move rfl (ltn rfl)) rfl ?_
                    refine VL.letter (decide (t28576 > 0)) fun b28710 hb28710 => ?_
                    refine VL.va (op_cmp rfl rfl (congrArg some hb28710) (ltn rfl)) rfl ?_
                    refine VL.done ?_
                    refine VN.then ?_
                    by_cases c28711 : t28576 > 0
                    · rw [if_pos c28711] at h
                      obtain rfl : b28710 = true := hb28710.symm.trans (decide_eq_true c28711)
                      refine VC.cond_t rfl ?_
                      refine VC.seq ?_
                      refine VC.region ?_
                      refine VL.va (op_assign rfl (ltn rfl)) rfl ?_
                      refine VL.done ?_
                      refine VN.then ?_
                      refine VC.ret ?_
                      refine VR.block ?_
                      refine VR.then ?_
                      refine VR.block ?_
                      refine VR.then ?_
                      refine VR.then ?_
                      refine VR.block ?_
                      refine VR.then ?_
                      cases h
                    · rw [if_neg c28711] at h
                      obtain rfl : b28710 = false := hb28710.symm.trans (decide_eq_false c28711)
                      refine VC.cond_f rfl ?_
                      refine VC.skip ?_
                      refine VN.block ?_
                      refine VN.meet26 q24173 i24174 q24175 true true i24177 s24178 i24179 i24180 i24181 i24182 i24183 i24184 q24185 i24186 s24187 i24188 i24189 i24190 i24191 i24192 i24193 i24194 i24195 i24196 q24197 [1, 2, 3] [] h ⟨rfl, ⟨rfl, rfl, rfl, rfl, rfl, rfl, rfl, rfl, rfl, rfl, rfl, rfl, rfl, rfl, rfl, rfl, rfl, rfl, rfl, rfl, rfl, rfl, rfl, rfl, rfl, rfl, trivial⟩, ⟨⟨0, rfl⟩, trivial⟩, rfl, by decide, rfl, by decide⟩
              · rw [if_neg c28575] at h
                obtain rfl : b28574 = false := hb28574.symm.trans (beq_eq_false_iff_ne.2 c28575)
                refine VC.cond_f rfl ?_
                refine VC.seq ?_
                refine VC.region ?_
                refine VL.letter ((((wrap64 ((x27667.f0.tmod 3) + 3)).tmod 3) == 1)) fun b28712 hb28712 => ?_
                refine VL.va (op_cmp rfl rfl (congrArg some hb28712) (ltn rfl)) rfl ?_
                refine VL.va (op_assign rfl (ltn rfl)) rfl ?_
                refine VL.done ?_
                refine VN.then ?_
                by_cases c28713 : ((wrap64 ((x27667.f0.tmod 3) + 3)).tmod 3) = 1
                · rw [if_pos c28713] at h
                  obtain rfl : b28712 = true := hb28712.symm.trans (beq_iff_eq.2 c28713)
                  refine VC.cond_t rfl ?_
                  refine VC.seq ?_
                  refine VC.region ?_
                  refine VL.va (op_load 2 21 rfl rfl TI29 rfl (fun h => absurd h (by decide)) (ltn rfl)) rfl ?_
                  replace h := Option.bind_eq_some_iff.1 h
                  obtain ⟨⟨t28714, t28715, t28716, t28717, t28718, t28719, t28720, t28721, t28722, t28723, t28724, t28725, t28726, t28727, t28728, t28729, t28730, t28731, t28732, t28733, t28734, t28735, t28736⟩, hA28737, h⟩ := h
                  dsimp only at h
                  refine VL.sC (o_call0 FO18 (order_Came.ok k i24177 s24178 i24179 i24180 i24181 i24182 i24183 i24184 q24185 i24186 s24187 i24188 i24189 i24190 i24191 i24192 i24193 i24194 i24195 i24196 q24197 t28714 t28715 t28716 t28717 t28718 t28719 t28720 t28721 t28722 t28723 t28724 t28725 t28726 t28727 t28728 t28729 t28730 t28731 t28732 t28733 t28734 t28735 t28736 hA28737) rfl rfl (ltn rfl) (All_of .nil)) rfl ?_
                  rintro _ _ _ ⟨rfl, rfl, rfl⟩
                  refine VL.va (op_move rfl (ltn rfl)) rfl ?_
                  refine VL.va (op_extract rfl rfl (ltn rfl)) rfl ?_
                  refine VL.va (op_extract rfl rfl (ltn rfl)) rfl ?_
                  refine VL.va (op_extract rfl rfl (ltn rfl)) rfl ?_
                  refine VL.sG (o_alloc (us := [.int .i64 0, .string (⟨#[]⟩ : ByteArray), .int .i64 0, .int .i64 0, .int .i64 0, .int .i64 0, .int .i64 0, .int .i64 0, .bool false, .int .i64 0, .string (⟨#[]⟩ : ByteArray), .int .i64 0, .int .i64 0, .int .i64 0, .int .i64 0, .int .i64 0, .int .i64 0, .int .i64 0, .int .i64 0, .int .i64 0, .bool false]) Z29 rfl (ltn rfl)) rfl ?_
                  intro g28738
                  refine VL.step1 (o_store 0 21 rfl rfl rfl TI29 (.agg (.c rfl (.c rfl (.c rfl (.c rfl (.c rfl (.c rfl (.c rfl (.c rfl (.c rfl (.c rfl (.c rfl (.c rfl (.c rfl (.c rfl (.c rfl (.c rfl (.c rfl (.c rfl (.c rfl (.c rfl (.c rfl .nil)))))))))))))))))))))) rfl (len rfl)) rfl ?_
                  refine VL.va (op_assign rfl (ltn rfl)) rfl ?_
                  refine VL.va (op_assign rfl (ltn rfl)) rfl ?_
                  refine VL.done ?_
                  refine VN.then ?_
                  refine VC.seq ?_
                  refine VC.region ?_
                  refine VL.va (op_move rfl (ltn rfl)) rfl ?_
                  refine VL.letter ((t28736 == 0)) fun b28739 hb28739 => ?_
                  refine VL.va (op_cmp rfl rfl (congrArg some hb28739) (ltn rfl)) rfl ?_
                  refine VL.done ?_
                  refine VN.then ?_
                  by_cases c28740 : t28736 = 0
                  · rw [if_pos c28740] at h
                    obtain rfl : b28739 = true := hb28739.symm.trans (beq_iff_eq.2 c28740)
                    refine VC.cond_t rfl ?_
                    refine VC.region ?_
                    refine VL.va (op_load 0 21 rfl rfl TI29 rfl (fun h => absurd h (by decide)) (ltn rfl)) rfl ?_
                    refine VL.va (op_move rfl (ltn rfl)) rfl ?_
                    refine VL.va (op_move rfl (ltn rfl)) rfl ?_
                    refine VL.va (op_ari64 rfl rfl rfl (ltn rfl)) rfl ?_
                    refine VL.step1 (o_store 3 21 rfl rfl rfl TI29 (.agg (.c rfl (.c rfl (.c rfl (.c rfl (.c rfl (.c rfl (.c rfl (.c rfl (.c rfl (.c rfl (.c rfl (.c rfl (.c rfl (.c rfl (.c rfl (.c rfl (.c rfl (.c rfl (.c rfl (.c rfl (.c rfl .nil)))))))))))))))))))))) rfl (len rfl)) rfl ?_
                    refine VL.va (op_assign rfl (ltn rfl)) rfl ?_
                    refine VL.done ?_
                    refine VN.block ?_
                    refine VN.meet26 q24173 (wrap64 (i24174 + t28735)) q24175 false false t28714 t28715 t28716 t28717 t28718 t28719 t28720 t28721 t28722 t28723 t28724 t28725 t28726 t28727 t28728 t28729 t28730 t28731 t28732 t28733 t28734 [1, 2, 3] [] h ⟨rfl, ⟨rfl, rfl, rfl, rfl, rfl, rfl, rfl, rfl, rfl, rfl, rfl, rfl, rfl, rfl, rfl, rfl, rfl, rfl, rfl, rfl, rfl, rfl, rfl, rfl, rfl, rfl, trivial⟩, ⟨⟨0, rfl⟩, trivial⟩, rfl, by decide, rfl, by decide⟩
                  · rw [if_neg c28740] at h
                    obtain rfl : b28739 = false := hb28739.symm.trans (beq_eq_false_iff_ne.2 c28740)
                    refine VC.cond_f rfl ?_
                    refine VC.skip ?_
                    refine VN.block ?_
                    refine VN.meet26 q24173 i24174 q24175 false false i24177 s24178 i24179 i24180 i24181 i24182 i24183 i24184 q24185 i24186 s24187 i24188 i24189 i24190 i24191 i24192 i24193 i24194 i24195 i24196 q24197 [1, 2, 3] [] h ⟨rfl, ⟨rfl, rfl, rfl, rfl, rfl, rfl, rfl, rfl, rfl, rfl, rfl, rfl, rfl, rfl, rfl, rfl, rfl, rfl, rfl, rfl, rfl, rfl, rfl, rfl, rfl, rfl, trivial⟩, ⟨⟨0, rfl⟩, trivial⟩, rfl, by decide, rfl, by decide⟩
                · rw [if_neg c28713] at h
                  obtain rfl : b28712 = false := hb28712.symm.trans (beq_eq_false_iff_ne.2 c28713)
                  refine VC.cond_f rfl ?_
                  refine VC.seq ?_
                  refine VC.region ?_
                  refine VL.va (op_load 2 21 rfl rfl TI29 rfl (fun h => absurd h (by decide)) (ltn rfl)) rfl ?_
                  replace h := Option.bind_eq_some_iff.1 h
                  obtain ⟨⟨t28741, t28742, t28743, t28744, t28745, t28746, t28747, t28748, t28749, t28750, t28751, t28752, t28753, t28754, t28755, t28756, t28757, t28758, t28759, t28760, t28761, t28762⟩, hA28763, h⟩ := h
                  dsimp only at h
                  refine VL.sC (o_call0 FO19 (order_End.ok k i24177 s24178 i24179 i24180 i24181 i24182 i24183 i24184 q24185 i24186 s24187 i24188 i24189 i24190 i24191 i24192 i24193 i24194 i24195 i24196 q24197 t28741 t28742 t28743 t28744 t28745 t28746 t28747 t28748 t28749 t28750 t28751 t28752 t28753 t28754 t28755 t28756 t28757 t28758 t28759 t28760 t28761 t28762 hA28763) rfl rfl (ltn rfl) (All_of .nil)) rfl ?_
                  rintro _ _ _ ⟨rfl, rfl, rfl⟩
                  refine VL.va (op_move rfl (ltn rfl)) rfl ?_
                  refine VL.va (op_extract rfl rfl (ltn rfl)) rfl ?_
                  refine VL.va (op_extract rfl rfl (ltn rfl)) rfl ?_
                  refine VL.sG (o_alloc (us := [.int .i64 0, .string (⟨#[]⟩ : ByteArray), .int .i64 0, .int .i64 0, .int .i64 0, .int .i64 0, .int .i64 0, .int .i64 0, .bool false, .int .i64 0, .string (⟨#[]⟩ : ByteArray), .int .i64 0, .int .i64 0, .int .i64 0, .int .i64 0, .int .i64 0, .int .i64 0, .int .i64 0, .int .i64 0, .int .i64 0, .bool false]) Z29 rfl (ltn rfl)) rfl ?_
                  intro g28764
                  refine VL.step1 (o_store 0 21 rfl rfl rfl TI29 (.agg (.c rfl (.c rfl (.c rfl (.c rfl (.c rfl (.c rfl (.c rfl (.c rfl (.c rfl (.c rfl (.c rfl (.c rfl (.c rfl (.c rfl (.c rfl (.c rfl (.c rfl (.c rfl (.c rfl (.c rfl (.c rfl .nil)))))))))))))))))))))) rfl (len rfl)) rfl ?_
                  refine VL.va (op_assign rfl (ltn rfl)) rfl ?_
                  refine VL.done ?_
                  refine VN.then ?_
                  refine VC.seq ?_
                  refine VC.region ?_
                  refine VL.va (op_move rfl (ltn rfl)) rfl ?_
                  refine VL.letter ((t28762 == 0)) fun b28765 hb28765 => ?_
                  refine VL.va (op_cmp rfl rfl (congrArg some hb28765) (ltn rfl)) rfl ?_
                  refine VL.done ?_
                  refine VN.then ?_
                  by_cases c28766 : t28762 = 0
                  · rw [if_pos c28766] at h
                    obtain rfl : b28765 = true := hb28765.symm.trans (beq_iff_eq.2 c28766)
                    refine VC.cond_t rfl ?_
                    refine VC.region ?_
                    refine VL.va (op_load 0 21 rfl rfl TI29 rfl (fun h => absurd h (by decide)) (ltn rfl)) rfl ?_
                    refine VL.step1 (o_store 3 21 rfl rfl rfl TI29 (.agg (.c rfl (.c rfl (.c rfl (.c rfl (.c rfl (.c rfl (.c rfl (.c rfl (.c rfl (.c rfl (.c rfl (.c rfl (.c rfl (.c rfl (.c rfl (.c rfl (.c rfl (.c rfl (.c rfl (.c rfl (.c rfl .nil)))))))))))))))))))))) rfl (len rfl)) rfl ?_
                    refine VL.va (op_assign rfl (ltn rfl)) rfl ?_
                    refine VL.done ?_
                    refine VN.block ?_
                    refine VN.meet26 q24173 i24174 true false false t28741 t28742 t28743 t28744 t28745 t28746 t28747 t28748 t28749 t28750 t28751 t28752 t28753 t28754 t28755 t28756 t28757 t28758 t28759 t28760 t28761 [1, 2, 3] [] h ⟨rfl, ⟨rfl, rfl, rfl, rfl, rfl, rfl, rfl, rfl, rfl, rfl, rfl, rfl, rfl, rfl, rfl, rfl, rfl, rfl, rfl, rfl, rfl, rfl, rfl, rfl, rfl, rfl, trivial⟩, ⟨⟨0, rfl⟩, trivial⟩, rfl, by decide, rfl, by decide⟩
                  · rw [if_neg c28766] at h
                    obtain rfl : b28765 = false := hb28765.symm.trans (beq_eq_false_iff_ne.2 c28766)
                    refine VC.cond_f rfl ?_
                    refine VC.skip ?_
                    refine VN.block ?_
                    refine VN.meet26 q24173 i24174 q24175 false false i24177 s24178 i24179 i24180 i24181 i24182 i24183 i24184 q24185 i24186 s24187 i24188 i24189 i24190 i24191 i24192 i24193 i24194 i24195 i24196 q24197 [1, 2, 3] [] h ⟨rfl, ⟨rfl, rfl, rfl, rfl, rfl, rfl, rfl, rfl, rfl, rfl, rfl, rfl, rfl, rfl, rfl, rfl, rfl, rfl, rfl, rfl, rfl, rfl, rfl, rfl, rfl, rfl, trivial⟩, ⟨⟨0, rfl⟩, trivial⟩, rfl, by decide, rfl, by decide⟩
            clear h
            intro q28767 i28768 q28769 q28770 q28771 i28772 s28773 i28774 i28775 i28776 i28777 i28778 i28779 q28780 i28781 s28782 i28783 i28784 i28785 i28786 i28787 i28788 i28789 i28790 i28791 q28792 h
            unfold tarrylaw13_OrderEnds.j33 at h
            refine VC.seq ?_
            refine VC.region ?_
            refine VL.va (op_load 2 21 rfl rfl TI29 rfl (fun h => absurd h (by decide)) (ltn rfl)) rfl ?_
            replace h := Option.bind_eq_some_iff.1 h
            obtain ⟨t28806, hA28807, h⟩ := h
            refine VL.sC (o_call0 FO12 (order_Right.ok k i28772 s28773 i28774 i28775 i28776 i28777 i28778 i28779 q28780 i28781 s28782 i28783 i28784 i28785 i28786 i28787 i28788 i28789 i28790 i28791 q28792 t28806 hA28807) rfl rfl (ltn rfl) (All_of .nil)) rfl ?_
            rintro _ _ _ ⟨rfl, rfl, rfl⟩
            by_cases c28808 : t28806 = true
            · rw [if_pos c28808] at h
              obtain rfl := c28808
              refine VL.va (op_not rfl rfl (ltn rfl)) rfl ?_
              refine VL.va (op_move rfl (ltn rfl)) rfl ?_
              refine VL.va (op_fieldAddr FI29_11 rfl (add_at _ _ _) (ltn rfl)) rfl ?_
              refine VL.va (op_fieldAddr FI25_1 rfl (add_at _ _ _) (ltn rfl)) rfl ?_
              refine VL.va (op_load 2 1 rfl rfl TI3 rfl (by decide) (ltn rfl)) rfl ?_
              refine VL.va (op_move rfl (ltn rfl)) rfl ?_
              refine VL.letter ((i28787 != i28768)) fun b28809 hb28809 => ?_
              refine VL.va (op_cmp rfl rfl (congrArg some hb28809) (ltn rfl)) rfl ?_
              refine VL.va (op_pick rfl rfl (ltn rfl)) rfl ?_
              refine VL.va (op_move rfl (ltn rfl)) rfl ?_
              by_cases c28810 : i28787 = i28768
              · rw [if_pos c28810] at h
                obtain rfl : b28809 = false := hb28809.symm.trans (bne_eq_false_iff_eq.2 c28810)
                refine VL.va (op_move rfl (ltn rfl)) rfl ?_
                refine VL.va (op_fieldAddr FI29_5 rfl (add_at _ _ _) (ltn rfl)) rfl ?_
                refine VL.va (op_load 2 1 rfl rfl TI3 rfl (by decide) (ltn rfl)) rfl ?_
                refine VL.va (op_move rfl (ltn rfl)) rfl ?_
                refine VL.va (op_ari64 rfl rfl rfl (ltn rfl)) rfl ?_
                refine VL.letter ((i28768 != (wrap64 (i28777 * (wrap64 (1 + ((wrap64 ((a1.tmod 50) + 50)).tmod 50))))))) fun b28811 hb28811 => ?_
                refine VL.va (op_cmp rfl rfl (congrArg some hb28811) (ltn rfl)) rfl ?_
                refine VL.va (op_pick rfl rfl (ltn rfl)) rfl ?_
                refine VL.va (op_move rfl (ltn rfl)) rfl ?_
                by_cases c28812 : i28768 = (wrap64 (i28777 * (wrap64 (1 + ((wrap64 ((a1.tmod 50) + 50)).tmod 50)))))
                · rw [if_pos c28812] at h
                  obtain rfl : b28811 = false := hb28811.symm.trans (bne_eq_false_iff_eq.2 c28812)
                  refine VL.va (op_fieldAddr FI29_5 rfl (add_at _ _ _) (ltn rfl)) rfl ?_
                  refine VL.va (op_load 2 1 rfl rfl TI3 rfl (by decide) (ltn rfl)) rfl ?_
                  refine VL.va (op_move rfl (ltn rfl)) rfl ?_
                  refine VL.letter (decide (i28777 > (wrap64 (1 + ((wrap64 ((a0.tmod 50) + 50)).tmod 50))))) fun b28813 hb28813 => ?_
                  refine VL.va (op_cmp rfl rfl (congrArg some hb28813) (ltn rfl)) rfl ?_
                  refine VL.va (op_pick rfl rfl (ltn rfl)) rfl ?_
                  refine VL.va (op_move rfl (ltn rfl)) rfl ?_
                  by_cases c28814 : i28777 > (wrap64 (1 + ((wrap64 ((a0.tmod 50) + 50)).tmod 50)))
                  · rw [if_pos c28814] at h
                    obtain rfl : b28813 = true := hb28813.symm.trans (decide_eq_true c28814)
                    refine VL.un rfl rfl (ltn rfl) ?_
                    refine VL.un rfl rfl (ltn rfl) ?_
                    refine VL.un rfl rfl (ltn rfl) ?_
                    refine VL.un rfl rfl (ltn rfl) ?_
                    refine VL.un rfl rfl (ltn rfl) ?_
                    refine VL.un rfl rfl (ltn rfl) ?_
                    refine VL.un rfl rfl (ltn rfl) ?_
                    refine VL.un rfl rfl (ltn rfl) ?_
                    refine VL.va (op_pick rfl rfl (ltn rfl)) rfl ?_
                    refine VL.done ?_
                    refine VN.then ?_
                    refine VC.cond_t rfl ?_
                    refine VC.seq ?_
                    refine VC.region ?_
                    refine VL.va (op_assign rfl (ltn rfl)) rfl ?_
                    refine VL.done ?_
                    refine VN.then ?_
                    refine VC.ret ?_
                    refine VR.block ?_
                    refine VR.then ?_
                    refine VR.then ?_
                    refine VR.block ?_
                    refine VR.then ?_
                    cases h
                  · rw [if_neg c28814] at h
                    obtain rfl : b28813 = false := hb28813.symm.trans (decide_eq_false c28814)
                    refine VL.va (op_load 0 21 rfl rfl TI29 rfl (fun h => absurd h (by decide)) (ltn rfl)) rfl ?_
                    replace h := Option.bind_eq_some_iff.1 h
                    obtain ⟨t28815, hA28816, h⟩ := h
                    refine VL.sC (o_call0 FO14 (order_Open.ok k i24177 s24178 i24179 i24180 i24181 i24182 i24183 i24184 q24185 i24186 s24187 i24188 i24189 i24190 i24191 i24192 i24193 i24194 i24195 i24196 q24197 t28815 hA28816) rfl rfl (ltn rfl) (All_of .nil)) rfl ?_
                    rintro _ _ _ ⟨rfl, rfl, rfl⟩
                    by_cases c28817 : t28815 = true
                    · rw [if_pos c28817] at h
                      obtain rfl := c28817
                      refine VL.va (op_not rfl rfl (ltn rfl)) rfl ?_
                      refine VL.va (op_move rfl (ltn rfl)) rfl ?_
                      refine VL.un rfl rfl (ltn rfl) ?_
                      refine VL.un rfl rfl (ltn rfl) ?_
                      refine VL.un rfl rfl (ltn rfl) ?_
                      refine VL.va (op_pick rfl rfl (ltn rfl)) rfl ?_
                      refine VL.va (op_pick rfl rfl (ltn rfl)) rfl ?_
                      refine VL.done ?_
                      refine VN.then ?_
                      refine VC.cond_f rfl ?_
                      refine VC.skip ?_
                      refine VN.block ?_
                      refine VN.then ?_
                      refine VC.region ?_
                      refine VL.va (op_ari64 rfl rfl rfl (ltn rfl)) rfl ?_
                      refine VL.va (op_move rfl (ltn rfl)) rfl ?_
                      refine VL.done ?_
                      refine VN.again [2] [] (ihl27 q28767 i28768 q28769 (wrap64 (i24176 + 1)) i28772 s28773 i28774 i28775 i28776 i28777 i28778 i28779 q28780 i28781 s28782 i28783 i28784 i28785 i28786 i28787 i28788 i28789 i28790 i28791 q28792 h) ⟨rfl, ⟨rfl, rfl, rfl, rfl, rfl, rfl, rfl, rfl, rfl, rfl, trivial⟩, ⟨⟨0, rfl⟩, trivial⟩, rfl, by decide, rfl, by decide⟩
                    · rw [if_neg c28817] at h
                      obtain rfl := Bool.eq_false_iff.2 c28817
                      refine VL.va (op_not rfl rfl (ltn rfl)) rfl ?_
                      refine VL.va (op_move rfl (ltn rfl)) rfl ?_
                      refine VL.va (op_load 2 21 rfl rfl TI29 rfl (fun h => absurd h (by decide)) (ltn rfl)) rfl ?_
                      refine VL.va (op_load 0 21 rfl rfl TI29 rfl (fun h => absurd h (by decide)) (ltn rfl)) rfl ?_
                      refine VL.letter ((!(((i28772 == i24177) && ((s28773 == s24178) && ((i28774 == i24179) && ((i28775 == i24180) && ((i28776 == i24181) && ((i28777 == i24182) && ((i28778 == i24183) && ((i28779 == i24184) && ((q28780 == q24185) && ((i28781 == i24186) && (((s28782 == s24187) && ((i28783 == i24188) && ((i28784 == i24189) && (i28785 == i24190)))) && (((i28786 == i24191) && ((i28787 == i24192) && ((i28788 == i24193) && (i28789 == i24194)))) && (((i28790 == i24195) && (i28791 == i24196)) && (q28792 == q24197))))))))))))))))) fun b28818 hb28818 => ?_
                      refine VL.va (op_neS rfl rfl EG29 (EQ29 i28772 s28773 i28774 i28775 i28776 i28777 i28778 i28779 q28780 i28781 s28782 i28783 i28784 i28785 i28786 i28787 i28788 i28789 i28790 i28791 q28792 i24177 s24178 i24179 i24180 i24181 i24182 i24183 i24184 q24185 i24186 s24187 i24188 i24189 i24190 i24191 i24192 i24193 i24194 i24195 i24196 q24197) hb28818 (ltn rfl)) rfl ?_
                      refine VL.va (op_pick rfl rfl (ltn rfl)) rfl ?_
                      refine VL.va (op_pick rfl rfl (ltn rfl)) rfl ?_
                      refine VL.done ?_
                      refine VN.then ?_
                      by_cases c28819 : (((i28772 == i24177) && ((s28773 == s24178) && ((i28774 == i24179) && ((i28775 == i24180) && ((i28776 == i24181) && ((i28777 == i24182) && ((i28778 == i24183) && ((i28779 == i24184) && ((q28780 == q24185) && ((i28781 == i24186) && (((s28782 == s24187) && ((i28783 == i24188) && ((i28784 == i24189) && (i28785 == i24190)))) && (((i28786 == i24191) && ((i28787 == i24192) && ((i28788 == i24193) && (i28789 == i24194)))) && (((i28790 == i24195) && (i28791 == i24196)) && (q28792 == q24197))))))))))))))) = true
                      · rw [if_pos c28819] at h
                        obtain rfl : b28818 = false := hb28818.symm.trans (not_t c28819)
                        refine VC.cond_f rfl ?_
                        refine VC.skip ?_
                        refine VN.block ?_
                        refine VN.then ?_
                        refine VC.region ?_
                        refine VL.va (op_ari64 rfl rfl rfl (ltn rfl)) rfl ?_
                        refine VL.va (op_move rfl (ltn rfl)) rfl ?_
                        refine VL.done ?_
                        refine VN.again [2] [] (ihl27 q28767 i28768 q28769 (wrap64 (i24176 + 1)) i28772 s28773 i28774 i28775 i28776 i28777 i28778 i28779 q28780 i28781 s28782 i28783 i28784 i28785 i28786 i28787 i28788 i28789 i28790 i28791 q28792 h) ⟨rfl, ⟨rfl, rfl, rfl, rfl, rfl, rfl, rfl, rfl, rfl, rfl, trivial⟩, ⟨⟨0, rfl⟩, trivial⟩, rfl, by decide, rfl, by decide⟩
                      · rw [if_neg c28819] at h
                        obtain rfl : b28818 = true := hb28818.symm.trans (not_f c28819)
                        refine VC.cond_t rfl ?_
                        refine VC.seq ?_
                        refine VC.region ?_
                        refine VL.va (op_assign rfl (ltn rfl)) rfl ?_
                        refine VL.done ?_
                        refine VN.then ?_
                        refine VC.ret ?_
                        refine VR.block ?_
                        refine VR.then ?_
                        refine VR.then ?_
                        refine VR.block ?_
                        refine VR.then ?_
                        cases h
                · rw [if_neg c28812] at h
                  obtain rfl : b28811 = true := hb28811.symm.trans (bne_iff_ne.2 c28812)
                  refine VL.un rfl rfl (ltn rfl) ?_
                  refine VL.un rfl rfl (ltn rfl) ?_
                  refine VL.un rfl rfl (ltn rfl) ?_
                  refine VL.un rfl rfl (ltn rfl) ?_
                  refine VL.va (op_pick rfl rfl (ltn rfl)) rfl ?_
                  refine VL.va (op_move rfl (ltn rfl)) rfl ?_
                  refine VL.un rfl rfl (ltn rfl) ?_
                  refine VL.un rfl rfl (ltn rfl) ?_
                  refine VL.un rfl rfl (ltn rfl) ?_
                  refine VL.un rfl rfl (ltn rfl) ?_
                  refine VL.un rfl rfl (ltn rfl) ?_
                  refine VL.un rfl rfl (ltn rfl) ?_
                  refine VL.un rfl rfl (ltn rfl) ?_
                  refine VL.un rfl rfl (ltn rfl) ?_
                  refine VL.va (op_pick rfl rfl (ltn rfl)) rfl ?_
                  refine VL.done ?_
                  refine VN.then ?_
                  refine VC.cond_t rfl ?_
                  refine VC.seq ?_
                  refine VC.region ?_
                  refine VL.va (op_assign rfl (ltn rfl)) rfl ?_
                  refine VL.done ?_
                  refine VN.then ?_
                  refine VC.ret ?_
                  refine VR.block ?_
                  refine VR.then ?_
                  refine VR.then ?_
                  refine VR.block ?_
                  refine VR.then ?_
                  cases h
              · rw [if_neg c28810] at h
                obtain rfl : b28809 = true := hb28809.symm.trans (bne_iff_ne.2 c28810)
                refine VL.un rfl rfl (ltn rfl) ?_
                refine VL.un rfl rfl (ltn rfl) ?_
                refine VL.un rfl rfl (ltn rfl) ?_
                refine VL.un rfl rfl (ltn rfl) ?_
                refine VL.un rfl rfl (ltn rfl) ?_
                refine VL.un rfl rfl (ltn rfl) ?_
                refine VL.va (op_pick rfl rfl (ltn rfl)) rfl ?_
                refine VL.va (op_move rfl (ltn rfl)) rfl ?_
                refine VL.un rfl rfl (ltn rfl) ?_
                refine VL.un rfl rfl (ltn rfl) ?_
                refine VL.un rfl rfl (ltn rfl) ?_
                refine VL.un rfl rfl (ltn rfl) ?_
                refine VL.va (op_pick rfl rfl (ltn rfl)) rfl ?_
                refine VL.va (op_move rfl (ltn rfl)) rfl ?_
                refine VL.un rfl rfl (ltn rfl) ?_
                refine VL.un rfl rfl (ltn rfl) ?_
                refine VL.un rfl rfl (ltn rfl) ?_
                refine VL.un rfl rfl (ltn rfl) ?_
                refine VL.un rfl rfl (ltn rfl) ?_
                refine VL.un rfl rfl (ltn rfl) ?_
                refine VL.un rfl rfl (ltn rfl) ?_
                refine VL.un rfl rfl (ltn rfl) ?_
                refine VL.va (op_pick rfl rfl (ltn rfl)) rfl ?_
                refine VL.done ?_
                refine VN.then ?_
                refine VC.cond_t rfl ?_
                refine VC.seq ?_
                refine VC.region ?_
                refine VL.va (op_assign rfl (ltn rfl)) rfl ?_
                refine VL.done ?_
                refine VN.then ?_
                refine VC.ret ?_
                refine VR.block ?_
                refine VR.then ?_
                refine VR.then ?_
                refine VR.block ?_
                refine VR.then ?_
                cases h
            · rw [if_neg c28808] at h
              obtain rfl := Bool.eq_false_iff.2 c28808
              refine VL.va (op_not rfl rfl (ltn rfl)) rfl ?_
              refine VL.va (op_move rfl (ltn rfl)) rfl ?_
              refine VL.un rfl rfl (ltn rfl) ?_
              refine VL.un rfl rfl (ltn rfl) ?_
              refine VL.un rfl rfl (ltn rfl) ?_
              refine VL.un rfl rfl (ltn rfl) ?_
              refine VL.un rfl rfl (ltn rfl) ?_
              refine VL.va (op_pick rfl rfl (ltn rfl)) rfl ?_
              refine VL.va (op_move rfl (ltn rfl)) rfl ?_
              refine VL.un rfl rfl (ltn rfl) ?_
              refine VL.un rfl rfl (ltn rfl) ?_
              refine VL.un rfl rfl (ltn rfl) ?_
              refine VL.un rfl rfl (ltn rfl) ?_
              refine VL.un rfl rfl (ltn rfl) ?_
              refine VL.un rfl rfl (ltn rfl) ?_
              refine VL.va (op_pick rfl rfl (ltn rfl)) rfl ?_
              refine VL.va (op_move rfl (ltn rfl)) rfl ?_
              refine VL.un rfl rfl (ltn rfl) ?_
              refine VL.un rfl rfl (ltn rfl) ?_
              refine VL.un rfl rfl (ltn rfl) ?_
              refine VL.un rfl rfl (ltn rfl) ?_
              refine VL.va (op_pick rfl rfl (ltn rfl)) rfl ?_
              refine VL.va (op_move rfl (ltn rfl)) rfl ?_
              refine VL.un rfl rfl (ltn rfl) ?_
              refine VL.un rfl rfl (ltn rfl) ?_
              refine VL.un rfl rfl (ltn rfl) ?_
              refine VL.un rfl rfl (ltn rfl) ?_
              refine VL.un rfl rfl (ltn rfl) ?_
              refine VL.un rfl rfl (ltn rfl) ?_
              refine VL.un rfl rfl (ltn rfl) ?_
              refine VL.un rfl rfl (ltn rfl) ?_
              refine VL.va (op_pick rfl rfl (ltn rfl)) rfl ?_
              refine VL.done ?_
              refine VN.then ?_
              refine VC.cond_t rfl ?_
              refine VC.seq ?_
              refine VC.region ?_
              refine VL.va (op_assign rfl (ltn rfl)) rfl ?_
              refine VL.done ?_
              refine VN.then ?_
              refine VC.ret ?_
              refine VR.block ?_
              refine VR.then ?_
              refine VR.then ?_
              refine VR.block ?_
              refine VR.then ?_
              cases h
        · rw [if_neg c27666] at h; cases h
      · rw [if_neg c26511] at h
        obtain rfl : b26509 = false := hb26509.symm.trans (decide_eq_false c26511)
        refine VC.cond_f rfl ?_
        refine VC.exit ?_
        refine VX.then ?_
        refine VX.then ?_
        refine VX.hit ?_
        refine VN.meet22 q24175 i24177 s24178 i24179 i24180 i24181 i24182 i24183 i24184 q24185 i24186 s24187 i24188 i24189 i24190 i24191 i24192 i24193 i24194 i24195 i24196 q24197 [0] [] h ⟨rfl, ⟨rfl, rfl, rfl, rfl, trivial⟩, trivial, rfl, by decide, rfl, by decide⟩
    clear h
    intro q28820 i28821 s28822 i28823 i28824 i28825 i28826 i28827 i28828 q28829 i28830 s28831 i28832 i28833 i28834 i28835 i28836 i28837 i28838 i28839 i28840 q28841 h
    unfold tarrylaw13_OrderEnds.j26 at h
    refine VC.join21 (fun (i29661 : Int) (s29662 : ByteArray) (i29663 : Int) (i29664 : Int) (i29665 : Int) (i29666 : Int) (i29667 : Int) (i29668 : Int) (q29669 : Bool) (i29670 : Int) (s29671 : ByteArray) (i29672 : Int) (i29673 : Int) (i29674 : Int) (i29675 : Int) (i29676 : Int) (i29677 : Int) (i29678 : Int) (i29679 : Int) (i29680 : Int) (q29681 : Bool) => ⟨216, [(0, .int .i64 (wrap64 (1 + ((wrap64 ((a0.tmod 50) + 50)).tmod 50)))), (8, .bool false), (9, .pointer (some ⟨g1844, 0, none⟩))], [], [(g1844, 29, [.int .i64 i29661, .string s29662, .int .i64 i29663, .int .i64 i29664, .int .i64 i29665, .int .i64 i29666, .int .i64 i29667, .int .i64 i29668, .bool q29669, .int .i64 i29670, .string s29671, .int .i64 i29672, .int .i64 i29673, .int .i64 i29674, .int .i64 i29675, .int .i64 i29676, .int .i64 i29677, .int .i64 i29678, .int .i64 i29679, .int .i64 i29680, .bool q29681])], []⟩) (fun (i29661 : Int) (s29662 : ByteArray) (i29663 : Int) (i29664 : Int) (i29665 : Int) (i29666 : Int) (i29667 : Int) (i29668 : Int) (q29669 : Bool) (i29670 : Int) (s29671 : ByteArray) (i29672 : Int) (i29673 : Int) (i29674 : Int) (i29675 : Int) (i29676 : Int) (i29677 : Int) (i29678 : Int) (i29679 : Int) (i29680 : Int) (q29681 : Bool) => tarrylaw13_OrderEnds.j35 k a0 i29661 s29662 i29663 i29664 i29665 i29666 i29667 i29668 q29669 i29670 s29671 i29672 i29673 i29674 i29675 i29676 i29677 i29678 i29679 i29680 q29681 = some r1) ?_ ?_
    · refine VC.seq ?_
      refine VC.region ?_
      refine VL.va (op_move rfl (ltn rfl)) rfl ?_
      by_cases c29634 : q28820 = true
      · rw [if_pos c29634] at h
        obtain rfl := c29634
        refine VL.va (op_not rfl rfl (ltn rfl)) rfl ?_
        refine VL.done ?_
        refine VN.then ?_
        refine VC.cond_f rfl ?_
        refine VC.skip ?_
        refine VN.meet21 i28821 s28822 i28823 i28824 i28825 i28826 i28827 i28828 q28829 i28830 s28831 i28832 i28833 i28834 i28835 i28836 i28837 i28838 i28839 i28840 q28841 [0] [] h ⟨rfl, ⟨rfl, rfl, rfl, trivial⟩, trivial, rfl, by decide, rfl, by decide⟩
      · rw [if_neg c29634] at h
        obtain rfl := Bool.eq_false_iff.2 c29634
        refine VL.va (op_not rfl rfl (ltn rfl)) rfl ?_
        refine VL.done ?_
        refine VN.then ?_
        refine VC.cond_t rfl ?_
        refine VC.seq ?_
        refine VC.region ?_
        refine VL.va (op_load 0 21 rfl rfl TI29 rfl (fun h => absurd h (by decide)) (ltn rfl)) rfl ?_
        replace h := Option.bind_eq_some_iff.1 h
        obtain ⟨⟨t29635, t29636, t29637, t29638, t29639, t29640, t29641, t29642, t29643, t29644, t29645, t29646, t29647, t29648, t29649, t29650, t29651, t29652, t29653, t29654, t29655, t29656⟩, hA29657, h⟩ := h
        dsimp only at h
        refine VL.sC (o_call0 FO19 (order_End.ok k i28821 s28822 i28823 i28824 i28825 i28826 i28827 i28828 q28829 i28830 s28831 i28832 i28833 i28834 i28835 i28836 i28837 i28838 i28839 i28840 q28841 t29635 t29636 t29637 t29638 t29639 t29640 t29641 t29642 t29643 t29644 t29645 t29646 t29647 t29648 t29649 t29650 t29651 t29652 t29653 t29654 t29655 t29656 hA29657) rfl rfl (ltn rfl) (All_of .nil)) rfl ?_
        rintro _ _ _ ⟨rfl, rfl, rfl⟩
        refine VL.va (op_move rfl (ltn rfl)) rfl ?_
        refine VL.va (op_extract rfl rfl (ltn rfl)) rfl ?_
        refine VL.va (op_extract rfl rfl (ltn rfl)) rfl ?_
        refine VL.sG (o_alloc (us := [.int .i64 0, .string (⟨#[]⟩ : ByteArray), .int .i64 0, .int .i64 0, .int .i64 0, .int .i64 0, .int .i64 0, .int .i64 0, .bool false, .int .i64 0, .string (⟨#[]⟩ : ByteArray), .int .i64 0, .int .i64 0, .int .i64 0, .int .i64 0, .int .i64 0, .int .i64 0, .int .i64 0, .int .i64 0, .int .i64 0, .bool false]) Z29 rfl (ltn rfl)) rfl ?_
        intro g29658
        refine VL.step1 (o_store 0 21 rfl rfl rfl TI29 (.agg (.c rfl (.c rfl (.c rfl (.c rfl (.c rfl (.c rfl (.c rfl (.c rfl (.c rfl (.c rfl (.c rfl (.c rfl (.c rfl (.c rfl (.c rfl (.c rfl (.c rfl (.c rfl (.c rfl (.c rfl (.c rfl .nil)))))))))))))))))))))) rfl (len rfl)) rfl ?_
        refine VL.va (op_assign rfl (ltn rfl)) rfl ?_
        refine VL.done ?_
        refine VN.then ?_
        refine VC.seq ?_
        refine VC.region ?_
        refine VL.va (op_move rfl (ltn rfl)) rfl ?_
        refine VL.letter ((t29656 == 0)) fun b29659 hb29659 => ?_
        refine VL.va (op_cmp rfl rfl (congrArg some hb29659) (ltn rfl)) rfl ?_
        refine VL.done ?_
        refine VN.then ?_
        by_cases c29660 : t29656 = 0
        · rw [if_pos c29660] at h
          obtain rfl : b29659 = true := hb29659.symm.trans (beq_iff_eq.2 c29660)
          refine VC.cond_t rfl ?_
          refine VC.region ?_
          refine VL.va (op_load 0 21 rfl rfl TI29 rfl (fun h => absurd h (by decide)) (ltn rfl)) rfl ?_
          refine VL.step1 (o_store 1 21 rfl rfl rfl TI29 (.agg (.c rfl (.c rfl (.c rfl (.c rfl (.c rfl (.c rfl (.c rfl (.c rfl (.c rfl (.c rfl (.c rfl (.c rfl (.c rfl (.c rfl (.c rfl (.c rfl (.c rfl (.c rfl (.c rfl (.c rfl (.c rfl .nil)))))))))))))))))))))) rfl (len rfl)) rfl ?_
          refine VL.done ?_
          refine VN.meet21 t29635 t29636 t29637 t29638 t29639 t29640 t29641 t29642 t29643 t29644 t29645 t29646 t29647 t29648 t29649 t29650 t29651 t29652 t29653 t29654 t29655 [1] [] h ⟨rfl, ⟨rfl, rfl, rfl, trivial⟩, trivial, rfl, by decide, rfl, by decide⟩
        · rw [if_neg c29660] at h
          obtain rfl : b29659 = false := hb29659.symm.trans (beq_eq_false_iff_ne.2 c29660)
          refine VC.cond_f rfl ?_
          refine VC.skip ?_
          refine VN.meet21 i28821 s28822 i28823 i28824 i28825 i28826 i28827 i28828 q28829 i28830 s28831 i28832 i28833 i28834 i28835 i28836 i28837 i28838 i28839 i28840 q28841 [1] [] h ⟨rfl, ⟨rfl, rfl, rfl, trivial⟩, trivial, rfl, by decide, rfl, by decide⟩
    clear h
    intro i29661 s29662 i29663 i29664 i29665 i29666 i29667 i29668 q29669 i29670 s29671 i29672 i29673 i29674 i29675 i29676 i29677 i29678 i29679 i29680 q29681 h
    unfold tarrylaw13_OrderEnds.j35 at h
    refine VC.seq ?_
    refine VC.seq ?_
    refine VC.region ?_
    refine VL.va (op_load 0 21 rfl rfl TI29 rfl (fun h => absurd h (by decide)) (ltn rfl)) rfl ?_
    replace h := Option.bind_eq_some_iff.1 h
    obtain ⟨⟨t29709, t29710, t29711, t29712, t29713, t29714, t29715, t29716, t29717, t29718, t29719, t29720, t29721, t29722, t29723, t29724, t29725, t29726, t29727, t29728, t29729, t29730, t29731⟩, hA29732, h⟩ := h
    dsimp only at h
    refine VL.sC (o_call0 FO18 (order_Came.ok k i29661 s29662 i29663 i29664 i29665 i29666 i29667 i29668 q29669 i29670 s29671 i29672 i29673 i29674 i29675 i29676 i29677 i29678 i29679 i29680 q29681 t29709 t29710 t29711 t29712 t29713 t29714 t29715 t29716 t29717 t29718 t29719 t29720 t29721 t29722 t29723 t29724 t29725 t29726 t29727 t29728 t29729 t29730 t29731 hA29732) rfl rfl (ltn rfl) (All_of .nil)) rfl ?_
    rintro _ _ _ ⟨rfl, rfl, rfl⟩
    refine VL.va (op_move rfl (ltn rfl)) rfl ?_
    refine VL.va (op_extract rfl rfl (ltn rfl)) rfl ?_
    refine VL.va (op_extract rfl rfl (ltn rfl)) rfl ?_
    refine VL.va (op_extract rfl rfl (ltn rfl)) rfl ?_
    refine VL.sG (o_alloc (us := [.int .i64 0, .string (⟨#[]⟩ : ByteArray), .int .i64 0, .int .i64 0, .int .i64 0, .int .i64 0, .int .i64 0, .int .i64 0, .bool false, .int .i64 0, .string (⟨#[]⟩ : ByteArray), .int .i64 0, .int .i64 0, .int .i64 0, .int .i64 0, .int .i64 0, .int .i64 0, .int .i64 0, .int .i64 0, .int .i64 0, .bool false]) Z29 rfl (ltn rfl)) rfl ?_
    intro g29733
    refine VL.step1 (o_store 0 21 rfl rfl rfl TI29 (.agg (.c rfl (.c rfl (.c rfl (.c rfl (.c rfl (.c rfl (.c rfl (.c rfl (.c rfl (.c rfl (.c rfl (.c rfl (.c rfl (.c rfl (.c rfl (.c rfl (.c rfl (.c rfl (.c rfl (.c rfl (.c rfl .nil)))))))))))))))))))))) rfl (len rfl)) rfl ?_
    refine VL.va (op_assign rfl (ltn rfl)) rfl ?_
    refine VL.va (op_assign rfl (ltn rfl)) rfl ?_
    refine VL.done ?_
    refine VN.then ?_
    refine VC.seq ?_
    refine VC.region ?_
    refine VL.va (op_move rfl (ltn rfl)) rfl ?_
    refine VL.letter ((t29731 == 0)) fun b29734 hb29734 => ?_
    refine VL.va (op_cmp rfl rfl (congrArg some hb29734) (ltn rfl)) rfl ?_
    refine VL.done ?_
    refine VN.then ?_
    by_cases c29735 : t29731 = 0
    · rw [if_pos c29735] at h
      obtain rfl : b29734 = true := hb29734.symm.trans (beq_iff_eq.2 c29735)
      refine VC.cond_t rfl ?_
      refine VC.region ?_
      refine VL.va (op_load 0 21 rfl rfl TI29 rfl (fun h => absurd h (by decide)) (ltn rfl)) rfl ?_
      refine VL.step1 (o_store 1 21 rfl rfl rfl TI29 (.agg (.c rfl (.c rfl (.c rfl (.c rfl (.c rfl (.c rfl (.c rfl (.c rfl (.c rfl (.c rfl (.c rfl (.c rfl (.c rfl (.c rfl (.c rfl (.c rfl (.c rfl (.c rfl (.c rfl (.c rfl (.c rfl .nil)))))))))))))))))))))) rfl (len rfl)) rfl ?_
      refine VL.done ?_
      refine VN.then ?_
      refine VC.seq ?_
      refine VC.region ?_
      replace h := Option.bind_eq_some_iff.1 h
      obtain ⟨t29751, hA29752, h⟩ := h
      refine VL.sC (o_call0 FO11 (tarrylaw13_alive.ok k t29751 hA29752) rfl rfl (ltn rfl) (All_of .nil)) rfl ?_
      rintro _ _ _ ⟨rfl, rfl, rfl⟩
      refine VL.va (op_move rfl (ltn rfl)) rfl ?_
      by_cases c29753 : t29751 = true
      · rw [if_pos c29753] at h
        obtain rfl := c29753
        refine VL.va (op_load 1 21 rfl rfl TI29 rfl (fun h => absurd h (by decide)) (ltn rfl)) rfl ?_
        replace h := Option.bind_eq_some_iff.1 h
        obtain ⟨t29754, hA29755, h⟩ := h
        refine VL.sC (o_call0 FO14 (order_Open.ok k t29709 t29710 t29711 t29712 t29713 t29714 t29715 t29716 t29717 t29718 t29719 t29720 t29721 t29722 t29723 t29724 t29725 t29726 t29727 t29728 t29729 t29754 hA29755) rfl rfl (ltn rfl) (All_of .nil)) rfl ?_
        rintro _ _ _ ⟨rfl, rfl, rfl⟩
        by_cases c29756 : t29754 = true
        · rw [if_pos c29756] at h
          obtain rfl := c29756
          refine VL.va (op_not rfl rfl (ltn rfl)) rfl ?_
          refine VL.va (op_pick rfl rfl (ltn rfl)) rfl ?_
          refine VL.va (op_move rfl (ltn rfl)) rfl ?_
          refine VL.un rfl rfl (ltn rfl) ?_
          refine VL.un rfl rfl (ltn rfl) ?_
          refine VL.un rfl rfl (ltn rfl) ?_
          refine VL.un rfl rfl (ltn rfl) ?_
          refine VL.va (op_pick rfl rfl (ltn rfl)) rfl ?_
          refine VL.va (op_move rfl (ltn rfl)) rfl ?_
          refine VL.un rfl rfl (ltn rfl) ?_
          refine VL.un rfl rfl (ltn rfl) ?_
          refine VL.un rfl rfl (ltn rfl) ?_
          refine VL.un rfl rfl (ltn rfl) ?_
          refine VL.un rfl rfl (ltn rfl) ?_
          refine VL.un rfl rfl (ltn rfl) ?_
          refine VL.un rfl rfl (ltn rfl) ?_
          refine VL.un rfl rfl (ltn rfl) ?_
          refine VL.va (op_pick rfl rfl (ltn rfl)) rfl ?_
          refine VL.va (op_move rfl (ltn rfl)) rfl ?_
          refine VL.un rfl rfl (ltn rfl) ?_
          refine VL.un rfl rfl (ltn rfl) ?_
          refine VL.un rfl rfl (ltn rfl) ?_
          refine VL.un rfl rfl (ltn rfl) ?_
          refine VL.un rfl rfl (ltn rfl) ?_
          refine VL.un rfl rfl (ltn rfl) ?_
          refine VL.un rfl rfl (ltn rfl) ?_
          refine VL.va (op_pick rfl rfl (ltn rfl)) rfl ?_
          refine VL.va (op_assign rfl (ltn rfl)) rfl ?_
          refine VL.done ?_
          refine VN.then ?_
          refine VC.ret ?_
          cases h
        · rw [if_neg c29756] at h
          obtain rfl := Bool.eq_false_iff.2 c29756
          refine VL.va (op_not rfl rfl (ltn rfl)) rfl ?_
          refine VL.va (op_pick rfl rfl (ltn rfl)) rfl ?_
          refine VL.va (op_move rfl (ltn rfl)) rfl ?_
          refine VL.va (op_fieldAddr FI29_11 rfl (add_at _ _ _) (ltn rfl)) rfl ?_
          refine VL.va (op_fieldAddr FI25_3 rfl (add_at _ _ _) (ltn rfl)) rfl ?_
          refine VL.va (op_load 1 1 rfl rfl TI3 rfl (by decide) (ltn rfl)) rfl ?_
          refine VL.letter ((t29726 == 3)) fun b29757 hb29757 => ?_
          refine VL.va (op_cmp rfl rfl (congrArg some hb29757) (ltn rfl)) rfl ?_
          refine VL.va (op_pick rfl rfl (ltn rfl)) rfl ?_
          refine VL.va (op_move rfl (ltn rfl)) rfl ?_
          by_cases c29758 : t29726 = 3
          · rw [if_pos c29758] at h
            obtain rfl : b29757 = true := hb29757.symm.trans (beq_iff_eq.2 c29758)
            refine VL.va (op_fieldAddr FI29_9 rfl (add_at _ _ _) (ltn rfl)) rfl ?_
            refine VL.va (op_load 1 1 rfl rfl TI3 rfl (by decide) (ltn rfl)) rfl ?_
            refine VL.letter ((t29718 == 3)) fun b29759 hb29759 => ?_
            refine VL.va (op_cmp rfl rfl (congrArg some hb29759) (ltn rfl)) rfl ?_
            refine VL.va (op_fieldAddr FI29_5 rfl (add_at _ _ _) (ltn rfl)) rfl ?_
            refine VL.va (op_load 1 1 rfl rfl TI3 rfl (by decide) (ltn rfl)) rfl ?_
            refine VL.va (op_move rfl (ltn rfl)) rfl ?_
            refine VL.letter ((t29714 == (wrap64 (1 + ((wrap64 ((a0.tmod 50) + 50)).tmod 50))))) fun b29760 hb29760 => ?_
            refine VL.va (op_cmp rfl rfl (congrArg some hb29760) (ltn rfl)) rfl ?_
            subst hb29759
            subst hb29760
            refine VL.letter (((t29718 == 3) == (t29714 == (wrap64 (1 + ((wrap64 ((a0.tmod 50) + 50)).tmod 50)))))) fun b29761 hb29761 => ?_
            refine VL.va (op_eqb Try.underlying4 rfl rfl (congrArg some hb29761) (ltn rfl)) rfl ?_
            refine VL.va (op_pick rfl rfl (ltn rfl)) rfl ?_
            refine VL.va (op_move rfl (ltn rfl)) rfl ?_
            by_cases c29762 : (t29718 == 3) = (t29714 == (wrap64 (1 + ((wrap64 ((a0.tmod 50) + 50)).tmod 50))))
            · rw [if_pos c29762] at h
              obtain rfl : b29761 = true := hb29761.symm.trans (beq_iff_eq.2 c29762)
              refine VL.va (op_fieldAddr FI29_9 rfl (add_at _ _ _) (ltn rfl)) rfl ?_
              refine VL.va (op_load 1 1 rfl rfl TI3 rfl (by decide) (ltn rfl)) rfl ?_
              refine VL.letter ((t29718 == 5)) fun b29763 hb29763 => ?_
              refine VL.va (op_cmp rfl rfl (congrArg some hb29763) (ltn rfl)) rfl ?_
              refine VL.va (op_fieldAddr FI29_5 rfl (add_at _ _ _) (ltn rfl)) rfl ?_
              refine VL.va (op_load 1 1 rfl rfl TI3 rfl (by decide) (ltn rfl)) rfl ?_
              refine VL.letter ((t29714 == 0)) fun b29764 hb29764 => ?_
              refine VL.va (op_cmp rfl rfl (congrArg some hb29764) (ltn rfl)) rfl ?_
              subst hb29763
              subst hb29764
              refine VL.letter (((t29718 == 5) == (t29714 == 0))) fun b29765 hb29765 => ?_
              refine VL.va (op_eqb Try.underlying4 rfl rfl (congrArg some hb29765) (ltn rfl)) rfl ?_
              refine VL.va (op_pick rfl rfl (ltn rfl)) rfl ?_
              refine VL.va (op_assign rfl (ltn rfl)) rfl ?_
              refine VL.done ?_
              refine VN.then ?_
              refine VC.ret ?_
              obtain rfl := Option.some.inj h
              subst hb29765
              exact VR.fn (rs := [.tmp 8]) [] [] [] rfl (.tmp rfl .nil) ⟨rfl, rfl, rfl⟩ trivial rfl (by decide)
            · rw [if_neg c29762] at h
              obtain rfl : b29761 = false := hb29761.symm.trans (beq_eq_false_iff_ne.2 c29762)
              refine VL.un rfl rfl (ltn rfl) ?_
              refine VL.un rfl rfl (ltn rfl) ?_
              refine VL.un rfl rfl (ltn rfl) ?_
              refine VL.un rfl rfl (ltn rfl) ?_
              refine VL.un rfl rfl (ltn rfl) ?_
              refine VL.un rfl rfl (ltn rfl) ?_
              refine VL.un rfl rfl (ltn rfl) ?_
              refine VL.va (op_pick rfl rfl (ltn rfl)) rfl ?_
              refine VL.va (op_assign rfl (ltn rfl)) rfl ?_
              refine VL.done ?_
              refine VN.then ?_
              refine VC.ret ?_
              cases h
          · rw [if_neg c29758] at h
            obtain rfl : b29757 = false := hb29757.symm.trans (beq_eq_false_iff_ne.2 c29758)
            refine VL.un rfl rfl (ltn rfl) ?_
            refine VL.un rfl rfl (ltn rfl) ?_
            refine VL.un rfl rfl (ltn rfl) ?_
            refine VL.un rfl rfl (ltn rfl) ?_
            refine VL.un rfl rfl (ltn rfl) ?_
            refine VL.un rfl rfl (ltn rfl) ?_
            refine VL.un rfl rfl (ltn rfl) ?_
            refine VL.un rfl rfl (ltn rfl) ?_
            refine VL.va (op_pick rfl rfl (ltn rfl)) rfl ?_
            refine VL.va (op_move rfl (ltn rfl)) rfl ?_
            refine VL.un rfl rfl (ltn rfl) ?_
            refine VL.un rfl rfl (ltn rfl) ?_
            refine VL.un rfl rfl (ltn rfl) ?_
            refine VL.un rfl rfl (ltn rfl) ?_
            refine VL.un rfl rfl (ltn rfl) ?_
            refine VL.un rfl rfl (ltn rfl) ?_
            refine VL.un rfl rfl (ltn rfl) ?_
            refine VL.va (op_pick rfl rfl (ltn rfl)) rfl ?_
            refine VL.va (op_assign rfl (ltn rfl)) rfl ?_
            refine VL.done ?_
            refine VN.then ?_
            refine VC.ret ?_
            cases h
      · rw [if_neg c29753] at h
        obtain rfl := Bool.eq_false_iff.2 c29753
        refine VL.un rfl rfl (ltn rfl) ?_
        refine VL.un rfl rfl (ltn rfl) ?_
        refine VL.un rfl rfl (ltn rfl) ?_
        refine VL.va (op_pick rfl rfl (ltn rfl)) rfl ?_
        refine VL.va (op_move rfl (ltn rfl)) rfl ?_
        refine VL.un rfl rfl (ltn rfl) ?_
        refine VL.un rfl rfl (ltn rfl) ?_
        refine VL.un rfl rfl (ltn rfl) ?_
        refine VL.un rfl rfl (ltn rfl) ?_
        refine VL.va (op_pick rfl rfl (ltn rfl)) rfl ?_
        refine VL.va (op_move rfl (ltn rfl)) rfl ?_
        refine VL.un rfl rfl (ltn rfl) ?_
        refine VL.un rfl rfl (ltn rfl) ?_
        refine VL.un rfl rfl (ltn rfl) ?_
        refine VL.un rfl rfl (ltn rfl) ?_
        refine VL.un rfl rfl (ltn rfl) ?_
        refine VL.un rfl rfl (ltn rfl) ?_
        refine VL.un rfl rfl (ltn rfl) ?_
        refine VL.un rfl rfl (ltn rfl) ?_
        refine VL.va (op_pick rfl rfl (ltn rfl)) rfl ?_
        refine VL.va (op_move rfl (ltn rfl)) rfl ?_
        refine VL.un rfl rfl (ltn rfl) ?_
        refine VL.un rfl rfl (ltn rfl) ?_
        refine VL.un rfl rfl (ltn rfl) ?_
        refine VL.un rfl rfl (ltn rfl) ?_
        refine VL.un rfl rfl (ltn rfl) ?_
        refine VL.un rfl rfl (ltn rfl) ?_
        refine VL.un rfl rfl (ltn rfl) ?_
        refine VL.va (op_pick rfl rfl (ltn rfl)) rfl ?_
        refine VL.va (op_assign rfl (ltn rfl)) rfl ?_
        refine VL.done ?_
        refine VN.then ?_
        refine VC.ret ?_
        cases h
    · rw [if_neg c29735] at h
      obtain rfl : b29734 = false := hb29734.symm.trans (beq_eq_false_iff_ne.2 c29735)
      refine VC.cond_f rfl ?_
      refine VC.skip ?_
      refine VN.then ?_
      refine VC.seq ?_
      refine VC.region ?_
      replace h := Option.bind_eq_some_iff.1 h
      obtain ⟨t29781, hA29782, h⟩ := h
      refine VL.sC (o_call0 FO11 (tarrylaw13_alive.ok k t29781 hA29782) rfl rfl (ltn rfl) (All_of .nil)) rfl ?_
      rintro _ _ _ ⟨rfl, rfl, rfl⟩
      refine VL.va (op_move rfl (ltn rfl)) rfl ?_
      by_cases c29783 : t29781 = true
      · rw [if_pos c29783] at h
        obtain rfl := c29783
        refine VL.va (op_load 1 21 rfl rfl TI29 rfl (fun h => absurd h (by decide)) (ltn rfl)) rfl ?_
        replace h := Option.bind_eq_some_iff.1 h
        obtain ⟨t29784, hA29785, h⟩ := h
        refine VL.sC (o_call0 FO14 (order_Open.ok k i29661 s29662 i29663 i29664 i29665 i29666 i29667 i29668 q29669 i29670 s29671 i29672 i29673 i29674 i29675 i29676 i29677 i29678 i29679 i29680 q29681 t29784 hA29785) rfl rfl (ltn rfl) (All_of .nil)) rfl ?_
        rintro _ _ _ ⟨rfl, rfl, rfl⟩
        by_cases c29786 : t29784 = true
        · rw [if_pos c29786] at h
          obtain rfl := c29786
          refine VL.va (op_not rfl rfl (ltn rfl)) rfl ?_
          refine VL.va (op_pick rfl rfl (ltn rfl)) rfl ?_
          refine VL.va (op_move rfl (ltn rfl)) rfl ?_
          refine VL.un rfl rfl (ltn rfl) ?_
          refine VL.un rfl rfl (ltn rfl) ?_
          refine VL.un rfl rfl (ltn rfl) ?_
          refine VL.un rfl rfl (ltn rfl) ?_
          refine VL.va (op_pick rfl rfl (ltn rfl)) rfl ?_
          refine VL.va (op_move rfl (ltn rfl)) rfl ?_
          refine VL.un rfl rfl (ltn rfl) ?_
          refine VL.un rfl rfl (ltn rfl) ?_
          refine VL.un rfl rfl (ltn rfl) ?_
          refine VL.un rfl rfl (ltn rfl) ?_
          refine VL.un rfl rfl (ltn rfl) ?_
          refine VL.un rfl rfl (ltn rfl) ?_
          refine VL.un rfl rfl (ltn rfl) ?_
          refine VL.un rfl rfl (ltn rfl) ?_
          refine VL.va (op_pick rfl rfl (ltn rfl)) rfl ?_
          refine VL.va (op_move rfl (ltn rfl)) rfl ?_
          refine VL.un rfl rfl (ltn rfl) ?_
          refine VL.un rfl rfl (ltn rfl) ?_
          refine VL.un rfl rfl (ltn rfl) ?_
          refine VL.un rfl rfl (ltn rfl) ?_
          refine VL.un rfl rfl (ltn rfl) ?_
          refine VL.un rfl rfl (ltn rfl) ?_
          refine VL.un rfl rfl (ltn rfl) ?_
          refine VL.va (op_pick rfl rfl (ltn rfl)) rfl ?_
          refine VL.va (op_assign rfl (ltn rfl)) rfl ?_
          refine VL.done ?_
          refine VN.then ?_
          refine VC.ret ?_
          cases h
        · rw [if_neg c29786] at h
          obtain rfl := Bool.eq_false_iff.2 c29786
          refine VL.va (op_not rfl rfl (ltn rfl)) rfl ?_
          refine VL.va (op_pick rfl rfl (ltn rfl)) rfl ?_
          refine VL.va (op_move rfl (ltn rfl)) rfl ?_
          refine VL.va (op_fieldAddr FI29_11 rfl (add_at _ _ _) (ltn rfl)) rfl ?_
          refine VL.va (op_fieldAddr FI25_3 rfl (add_at _ _ _) (ltn rfl)) rfl ?_
          refine VL.va (op_load 1 1 rfl rfl TI3 rfl (by decide) (ltn rfl)) rfl ?_
          refine VL.letter ((i29678 == 3)) fun b29787 hb29787 => ?_
          refine VL.va (op_cmp rfl rfl (congrArg some hb29787) (ltn rfl)) rfl ?_
          refine VL.va (op_pick rfl rfl (ltn rfl)) rfl ?_
          refine VL.va (op_move rfl (ltn rfl)) rfl ?_
          by_cases c29788 : i29678 = 3
          · rw [if_pos c29788] at h
            obtain rfl : b29787 = true := hb29787.symm.trans (beq_iff_eq.2 c29788)
            refine VL.va (op_fieldAddr FI29_9 rfl (add_at _ _ _) (ltn rfl)) rfl ?_
            refine VL.va (op_load 1 1 rfl rfl TI3 rfl (by decide) (ltn rfl)) rfl ?_
            refine VL.letter ((i29670 == 3)) fun b29789 hb29789 => ?_
            refine VL.va (op_cmp rfl rfl (congrArg some hb29789) (ltn rfl)) rfl ?_
            refine VL.va (op_fieldAddr FI29_5 rfl (add_at _ _ _) (ltn rfl)) rfl ?_
            refine VL.va (op_load 1 1 rfl rfl TI3 rfl (by decide) (ltn rfl)) rfl ?_
            refine VL.va (op_move rfl (ltn rfl)) rfl ?_
            refine VL.letter ((i29666 == (wrap64 (1 + ((wrap64 ((a0.tmod 50) + 50)).tmod 50))))) fun b29790 hb29790 => ?_
            refine VL.va (op_cmp rfl rfl (congrArg some hb29790) (ltn rfl)) rfl ?_
            subst hb29789
            subst hb29790
            refine VL.letter (((i29670 == 3) == (i29666 == (wrap64 (1 + ((wrap64 ((a0.tmod 50) + 50)).tmod 50)))))) fun b29791 hb29791 => ?_
            refine VL.va (op_eqb Try.underlying4 rfl rfl (congrArg some hb29791) (ltn rfl)) rfl ?_
            refine VL.va (op_pick rfl rfl (ltn rfl)) rfl ?_
            refine VL.va (op_move rfl (ltn rfl)) rfl ?_
            by_cases c29792 : (i29670 == 3) = (i29666 == (wrap64 (1 + ((wrap64 ((a0.tmod 50) + 50)).tmod 50))))
            · rw [if_pos c29792] at h
              obtain rfl : b29791 = true := hb29791.symm.trans (beq_iff_eq.2 c29792)
              refine VL.va (op_fieldAddr FI29_9 rfl (add_at _ _ _) (ltn rfl)) rfl ?_
              refine VL.va (op_load 1 1 rfl rfl TI3 rfl (by decide) (ltn rfl)) rfl ?_
              refine VL.letter ((i29670 == 5)) fun b29793 hb29793 => ?_
              refine VL.va (op_cmp rfl rfl (congrArg some hb29793) (ltn rfl)) rfl ?_
              refine VL.va (op_fieldAddr FI29_5 rfl (add_at _ _ _) (ltn rfl)) rfl ?_
              refine VL.va (op_load 1 1 rfl rfl TI3 rfl (by decide) (ltn rfl)) rfl ?_
              refine VL.letter ((i29666 == 0)) fun b29794 hb29794 => ?_
              refine VL.va (op_cmp rfl rfl (congrArg some hb29794) (ltn rfl)) rfl ?_
              subst hb29793
              subst hb29794
              refine VL.letter (((i29670 == 5) == (i29666 == 0))) fun b29795 hb29795 => ?_
              refine VL.va (op_eqb Try.underlying4 rfl rfl (congrArg some hb29795) (ltn rfl)) rfl ?_
              refine VL.va (op_pick rfl rfl (ltn rfl)) rfl ?_
              refine VL.va (op_assign rfl (ltn rfl)) rfl ?_
              refine VL.done ?_
              refine VN.then ?_
              refine VC.ret ?_
              obtain rfl := Option.some.inj h
              subst hb29795
              exact VR.fn (rs := [.tmp 8]) [] [] [] rfl (.tmp rfl .nil) ⟨rfl, rfl, rfl⟩ trivial rfl (by decide)
            · rw [if_neg c29792] at h
              obtain rfl : b29791 = false := hb29791.symm.trans (beq_eq_false_iff_ne.2 c29792)
              refine VL.un rfl rfl (ltn rfl) ?_
              refine VL.un rfl rfl (ltn rfl) ?_
              refine VL.un rfl rfl (ltn rfl) ?_
              refine VL.un rfl rfl (ltn rfl) ?_
              refine VL.un rfl rfl (ltn rfl) ?_
              refine VL.un rfl rfl (ltn rfl) ?_
              refine VL.un rfl rfl (ltn rfl) ?_
              refine VL.va (op_pick rfl rfl (ltn rfl)) rfl ?_
              refine VL.va (op_assign rfl (ltn rfl)) rfl ?_
              refine VL.done ?_
              refine VN.then ?_
              refine VC.ret ?_
              cases h
          · rw [if_neg c29788] at h
            obtain rfl : b29787 = false := hb29787.symm.trans (beq_eq_false_iff_ne.2 c29788)
            refine VL.un rfl rfl (ltn rfl) ?_
            refine VL.un rfl rfl (ltn rfl) ?_
            refine VL.un rfl rfl (ltn rfl) ?_
            refine VL.un rfl rfl (ltn rfl) ?_
            refine VL.un rfl rfl (ltn rfl) ?_
            refine VL.un rfl rfl (ltn rfl) ?_
            refine VL.un rfl rfl (ltn rfl) ?_
            refine VL.un rfl rfl (ltn rfl) ?_
            refine VL.va (op_pick rfl rfl (ltn rfl)) rfl ?_
            refine VL.va (op_move rfl (ltn rfl)) rfl ?_
            refine VL.un rfl rfl (ltn rfl) ?_
            refine VL.un rfl rfl (ltn rfl) ?_
            refine VL.un rfl rfl (ltn rfl) ?_
            refine VL.un rfl rfl (ltn rfl) ?_
            refine VL.un rfl rfl (ltn rfl) ?_
            refine VL.un rfl rfl (ltn rfl) ?_
            refine VL.un rfl rfl (ltn rfl) ?_
            refine VL.va (op_pick rfl rfl (ltn rfl)) rfl ?_
            refine VL.va (op_assign rfl (ltn rfl)) rfl ?_
            refine VL.done ?_
            refine VN.then ?_
            refine VC.ret ?_
            cases h
      · rw [if_neg c29783] at h
        obtain rfl := Bool.eq_false_iff.2 c29783
        refine VL.un rfl rfl (ltn rfl) ?_
        refine VL.un rfl rfl (ltn rfl) ?_
        refine VL.un rfl rfl (ltn rfl) ?_
        refine VL.va (op_pick rfl rfl (ltn rfl)) rfl ?_
        refine VL.va (op_move rfl (ltn rfl)) rfl ?_
        refine VL.un rfl rfl (ltn rfl) ?_
        refine VL.un rfl rfl (ltn rfl) ?_
        refine VL.un rfl rfl (ltn rfl) ?_
        refine VL.un rfl rfl (ltn rfl) ?_
        refine VL.va (op_pick rfl rfl (ltn rfl)) rfl ?_
        refine VL.va (op_move rfl (ltn rfl)) rfl ?_
        refine VL.un rfl rfl (ltn rfl) ?_
        refine VL.un rfl rfl (ltn rfl) ?_
        refine VL.un rfl rfl (ltn rfl) ?_
        refine VL.un rfl rfl (ltn rfl) ?_
        refine VL.un rfl rfl (ltn rfl) ?_
        refine VL.un rfl rfl (ltn rfl) ?_
        refine VL.un rfl rfl (ltn rfl) ?_
        refine VL.un rfl rfl (ltn rfl) ?_
        refine VL.va (op_pick rfl rfl (ltn rfl)) rfl ?_
        refine VL.va (op_move rfl (ltn rfl)) rfl ?_
        refine VL.un rfl rfl (ltn rfl) ?_
        refine VL.un rfl rfl (ltn rfl) ?_
        refine VL.un rfl rfl (ltn rfl) ?_
        refine VL.un rfl rfl (ltn rfl) ?_
        refine VL.un rfl rfl (ltn rfl) ?_
        refine VL.un rfl rfl (ltn rfl) ?_
        refine VL.un rfl rfl (ltn rfl) ?_
        refine VL.va (op_pick rfl rfl (ltn rfl)) rfl ?_
        refine VL.va (op_assign rfl (ltn rfl)) rfl ?_
        refine VL.done ?_
        refine VN.then ?_
        refine VC.ret ?_
        cases h
  · rw [if_neg c1848] at h
    obtain rfl : b1847 = true := hb1847.symm.trans (bne_iff_ne.2 c1848)
    refine VC.cond_t rfl ?_
    refine VC.seq ?_
    refine VC.region ?_
    refine VL.va (op_assign rfl (ltn rfl)) rfl ?_
    refine VL.done ?_
    refine VN.then ?_
    refine VC.ret ?_
    refine VR.then ?_
    cases h

end Go.Proofs.Ytlmpfogfgefngaa.GOrderEnds
