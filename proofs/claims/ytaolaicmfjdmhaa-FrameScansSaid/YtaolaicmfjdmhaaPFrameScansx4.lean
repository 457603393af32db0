/- Written by a program of this repo: what the program's functions do, each as a Lean function, shown of the loaded code; or a statement's row over that; no condition of its own. -/
import Derived.Test.YtaolaicmfjdmhaaPFrameScansx3
namespace Go.Proofs.Ytaolaicmfjdmhaa.PFrameScans
open Go Go.RowKit Go.Proofs.YtaolaicmfjdmhaaV
set_option linter.unusedVariables false
set_option linter.unusedSimpArgs false

set_option maxHeartbeats 4000000 in
set_option maxRecDepth 100000 in
theorem tarryref01_ReadNumber.ok (k : Nat) (a0 : ByteArray)  (r1 : Int) (r2 : ByteArray) (r3 : Int) (h : tarryref01_ReadNumber.f k a0 = some (r1, r2, r3)) :
    VCalls Try.prog 20 [.string a0] [] (fun v G own => v = .agg #[.int .i64 r1, .string r2, .int .i64 r3] ∧ G = [] ∧ own = []) := by
  refine VCalls.intro Try.func20 rfl (len rfl) fun E hC hW hD => ?_
  unfold tarryref01_ReadNumber.f at h
  refine VC.seq ?_
  refine VC.region ?_
  refine VL.sG (o_alloc Z48 ZL48 (ltn rfl)) rfl ?_
  intro g3002
  refine VL.done ?_
  refine VN.then ?_
  refine VC.seq ?_
  refine VC.region ?_
  refine VL.va (op_assign rfl (ltn rfl)) rfl ?_
  refine VL.done ?_
  refine VN.then ?_
  refine VC.join1 (fun (i16906 : Int) => ⟨79, [(0, .string a0), (2, .pointer (some ⟨g3002, 0, none⟩)), (3, .int .i64 i16906)], [], [(g3002, 48, [.int .i64 0, .string (⟨#[]⟩ : ByteArray), .int .i64 0])], []⟩) (fun (i16906 : Int) => tarryref01_ReadNumber.j184 k a0 i16906 = some (r1, r2, r3)) ?_ ?_
  · refine VC.seq ?_
    refine VC.region ?_
    refine VL.va (op_assign rfl (ltn rfl)) rfl ?_
    refine VL.done ?_
    refine VN.then ?_
    refine VC.block ?_
    refine VC.loop2 (fun (i16832 : Int) (i16833 : Int) => ⟨79, [(0, .string a0), (2, .pointer (some ⟨g3002, 0, none⟩)), (3, .int .i64 i16832), (4, .int .i64 i16833)], [], [(g3002, 48, [.int .i64 0, .string (⟨#[]⟩ : ByteArray), .int .i64 0])], []⟩) (fun (ml185 : Nat) (i16832 : Int) (i16833 : Int) => tarryref01_ReadNumber.l185 k a0 ml185 i16832 i16833 = some (r1, r2, r3)) k (-1) 0 [0] [] h ⟨rfl, ⟨rfl, rfl, rfl, rfl, trivial⟩, trivial, rfl, by decide, rfl, by decide⟩ (by intros; simp [tarryref01_ReadNumber.l185]) ?_
    clear h
    intro ml185 ihl185 i16832 i16833 h
    simp only [tarryref01_ReadNumber.l185] at h
    refine VC.seq ?_
    refine VC.seq ?_
    refine VC.region ?_
    refine VL.va (op_move rfl (ltn rfl)) rfl ?_
    refine VL.va (op_move rfl (ltn rfl)) rfl ?_
    refine VL.va (op_lens Try.underlying9 rfl (ltn rfl)) rfl ?_
    refine VL.letter (decide (i16833 < (a0.size : Int))) fun b16880 hb16880 => ?_
    refine VL.va (op_cmp rfl rfl (congrArg some hb16880) (ltn rfl)) rfl ?_
    refine VL.va (op_move rfl (ltn rfl)) rfl ?_
    by_cases c16881 : i16833 < (a0.size : Int)
    · rw [if_pos c16881] at h
      obtain rfl : b16880 = true := hb16880.symm.trans (decide_eq_true c16881)
      refine VL.va (op_move rfl (ltn rfl)) rfl ?_
      refine VL.letter (decide (i16833 < 9)) fun b16882 hb16882 => ?_
      refine VL.va (op_cmp rfl rfl (congrArg some hb16882) (ltn rfl)) rfl ?_
      refine VL.va (op_pick rfl rfl (ltn rfl)) rfl ?_
      refine VL.done ?_
      refine VN.then ?_
      by_cases c16883 : i16833 < 9
      · rw [if_pos c16883] at h
        obtain rfl : b16882 = true := hb16882.symm.trans (decide_eq_true c16883)
        refine VC.cond_t rfl ?_
        refine VC.skip ?_
        refine VN.then ?_
        refine VC.seq ?_
        refine VC.block ?_
        refine VC.seq ?_
        refine VC.region ?_
        refine VL.va (op_move rfl (ltn rfl)) rfl ?_
        refine VL.letter (decide (i16832 < 0)) fun b16900 hb16900 => ?_
        refine VL.va (op_cmp rfl rfl (congrArg some hb16900) (ltn rfl)) rfl ?_
        refine VL.va (op_move rfl (ltn rfl)) rfl ?_
        by_cases c16901 : i16832 < 0
        · rw [if_pos c16901] at h
          obtain rfl : b16900 = true := hb16900.symm.trans (decide_eq_true c16901)
          refine VL.va (op_move rfl (ltn rfl)) rfl ?_
          refine VL.va (op_move rfl (ltn rfl)) rfl ?_
          by_cases c16902 : 0 ≤ i16833
          · rw [if_pos c16902] at h
            by_cases c16903 : i16833 < (a0.size : Int)
            · rw [if_pos c16903] at h
              refine VL.va (op_indexS Try.underlying9 rfl rfl c16902 c16903 rfl (ltn rfl)) rfl ?_
              refine VL.letter (decide ((bt a0 i16833) < 128)) fun b16904 hb16904 => ?_
              refine VL.va (op_cmp rfl rfl (congrArg some hb16904) (ltn rfl)) rfl ?_
              refine VL.va (op_pick rfl rfl (ltn rfl)) rfl ?_
              refine VL.done ?_
              refine VN.then ?_
              by_cases c16905 : (bt a0 i16833) < 128
              · rw [if_pos c16905] at h
                obtain rfl : b16904 = true := hb16904.symm.trans (decide_eq_true c16905)
                refine VC.cond_t rfl ?_
                refine VC.region ?_
                refine VL.va (op_move rfl (ltn rfl)) rfl ?_
                refine VL.va (op_assign rfl (ltn rfl)) rfl ?_
                refine VL.done ?_
                refine VN.block ?_
                refine VN.then ?_
                refine VC.region ?_
                refine VL.va (op_move rfl (ltn rfl)) rfl ?_
                refine VL.va (op_ari64 rfl rfl rfl (ltn rfl)) rfl ?_
                refine VL.va (op_assign rfl (ltn rfl)) rfl ?_
                refine VL.done ?_
                refine VN.again [0] [] (ihl185 i16833 (wrap64 (i16833 + 1)) h) ⟨rfl, ⟨rfl, rfl, rfl, rfl, trivial⟩, trivial, rfl, by decide, rfl, by decide⟩
              · rw [if_neg c16905] at h
                obtain rfl : b16904 = false := hb16904.symm.trans (decide_eq_false c16905)
                refine VC.cond_f rfl ?_
                refine VC.skip ?_
                refine VN.block ?_
                refine VN.then ?_
                refine VC.region ?_
                refine VL.va (op_move rfl (ltn rfl)) rfl ?_
                refine VL.va (op_ari64 rfl rfl rfl (ltn rfl)) rfl ?_
                refine VL.va (op_assign rfl (ltn rfl)) rfl ?_
                refine VL.done ?_
                refine VN.again [0] [] (ihl185 i16832 (wrap64 (i16833 + 1)) h) ⟨rfl, ⟨rfl, rfl, rfl, rfl, trivial⟩, trivial, rfl, by decide, rfl, by decide⟩
            · rw [if_neg c16903] at h; cases h
          · rw [if_neg c16902] at h; cases h
        · rw [if_neg c16901] at h
          obtain rfl : b16900 = false := hb16900.symm.trans (decide_eq_false c16901)
          refine VL.un rfl rfl (ltn rfl) ?_
          refine VL.un rfl rfl (ltn rfl) ?_
          refine VL.un rfl rfl (ltn rfl) ?_
          refine VL.un rfl rfl (ltn rfl) ?_
          refine VL.va (op_pick rfl rfl (ltn rfl)) rfl ?_
          refine VL.done ?_
          refine VN.then ?_
          refine VC.cond_f rfl ?_
          refine VC.skip ?_
          refine VN.block ?_
          refine VN.then ?_
          refine VC.region ?_
          refine VL.va (op_move rfl (ltn rfl)) rfl ?_
          refine VL.va (op_ari64 rfl rfl rfl (ltn rfl)) rfl ?_
          refine VL.va (op_assign rfl (ltn rfl)) rfl ?_
          refine VL.done ?_
          refine VN.again [0] [] (ihl185 i16832 (wrap64 (i16833 + 1)) h) ⟨rfl, ⟨rfl, rfl, rfl, rfl, trivial⟩, trivial, rfl, by decide, rfl, by decide⟩
      · rw [if_neg c16883] at h
        obtain rfl : b16882 = false := hb16882.symm.trans (decide_eq_false c16883)
        refine VC.cond_f rfl ?_
        refine VC.exit ?_
        refine VX.then ?_
        refine VX.then ?_
        refine VX.hit ?_
        refine VN.meet1 i16832 [0] [] h ⟨rfl, ⟨rfl, rfl, rfl, trivial⟩, trivial, rfl, by decide, rfl, by decide⟩
    · rw [if_neg c16881] at h
      obtain rfl : b16880 = false := hb16880.symm.trans (decide_eq_false c16881)
      refine VL.un rfl rfl (ltn rfl) ?_
      refine VL.un rfl rfl (ltn rfl) ?_
      refine VL.va (op_pick rfl rfl (ltn rfl)) rfl ?_
      refine VL.done ?_
      refine VN.then ?_
      refine VC.cond_f rfl ?_
      refine VC.exit ?_
      refine VX.then ?_
      refine VX.then ?_
      refine VX.hit ?_
      refine VN.meet1 i16832 [0] [] h ⟨rfl, ⟨rfl, rfl, rfl, trivial⟩, trivial, rfl, by decide, rfl, by decide⟩
  clear h
  intro i16906 h
  unfold tarryref01_ReadNumber.j184 at h
  refine VC.join0 (⟨79, [(0, .string a0), (2, .pointer (some ⟨g3002, 0, none⟩)), (3, .int .i64 i16906)], [], [(g3002, 48, [.int .i64 0, .string (⟨#[]⟩ : ByteArray), .int .i64 0])], []⟩) (tarryref01_ReadNumber.j208 k a0 i16906 = some (r1, r2, r3)) ?_ ?_
  · refine VC.seq ?_
    refine VC.region ?_
    refine VL.va (op_move rfl (ltn rfl)) rfl ?_
    refine VL.letter (decide (i16906 < 0)) fun b18604 hb18604 => ?_
    refine VL.va (op_cmp rfl rfl (congrArg some hb18604) (ltn rfl)) rfl ?_
    refine VL.va (op_move rfl (ltn rfl)) rfl ?_
    by_cases c18605 : i16906 < 0
    · rw [if_pos c18605] at h
      obtain rfl : b18604 = true := hb18604.symm.trans (decide_eq_true c18605)
      refine VL.va (op_move rfl (ltn rfl)) rfl ?_
      refine VL.va (op_lens Try.underlying9 rfl (ltn rfl)) rfl ?_
      refine VL.letter (decide ((a0.size : Int) ≥ 9)) fun b18606 hb18606 => ?_
      refine VL.va (op_cmp rfl rfl (congrArg some hb18606) (ltn rfl)) rfl ?_
      refine VL.va (op_pick rfl rfl (ltn rfl)) rfl ?_
      refine VL.done ?_
      refine VN.then ?_
      by_cases c18607 : (a0.size : Int) ≥ 9
      · rw [if_pos c18607] at h
        obtain rfl : b18606 = true := hb18606.symm.trans (decide_eq_true c18607)
        refine VC.cond_t rfl ?_
        refine VC.seq ?_
        refine VC.region ?_
        refine VL.va (op_build (vals := [(2, .int .i64 3)]) (vcs := [(2, [.int .i64 3])]) (cells := [.int .i64 0, .string (⟨#[]⟩ : ByteArray), .int .i64 3]) SI48 rfl (.cons ⟨rfl, (.c rfl)⟩ .nil) (by kernel_rfl) (ltn rfl)) rfl ?_
        refine VL.step1 (o_store 0 3 rfl rfl rfl TI48 (.agg (.of rfl)) rfl (len rfl)) rfl ?_
        refine VL.done ?_
        refine VN.then ?_
        refine VC.ret ?_
        refine VR.then ?_
        simp only [Option.some.injEq, Prod.mk.injEq] at h
        obtain ⟨rfl, rfl, rfl⟩ := h
        exact VR.fn (rs := [.cell 2 48]) [] [] [] rfl (.cell 0 rfl rfl TI48 (fun h => absurd h (by decide)) .nil) ⟨rfl, rfl, rfl⟩ trivial rfl (by decide)
      · rw [if_neg c18607] at h
        obtain rfl : b18606 = false := hb18606.symm.trans (decide_eq_false c18607)
        refine VC.cond_f rfl ?_
        refine VC.skip ?_
        refine VN.meet0  [0] [] h ⟨rfl, ⟨rfl, rfl, rfl, trivial⟩, trivial, rfl, by decide, rfl, by decide⟩
    · rw [if_neg c18605] at h
      obtain rfl : b18604 = false := hb18604.symm.trans (decide_eq_false c18605)
      refine VL.un rfl rfl (ltn rfl) ?_
      refine VL.un rfl rfl (ltn rfl) ?_
      refine VL.un rfl rfl (ltn rfl) ?_
      refine VL.va (op_pick rfl rfl (ltn rfl)) rfl ?_
      refine VL.done ?_
      refine VN.then ?_
      refine VC.cond_f rfl ?_
      refine VC.skip ?_
      refine VN.meet0  [0] [] h ⟨rfl, ⟨rfl, rfl, rfl, trivial⟩, trivial, rfl, by decide, rfl, by decide⟩
  clear h
  intro  h
  unfold tarryref01_ReadNumber.j208 at h
  refine VC.seq ?_
  refine VC.seq ?_
  refine VC.region ?_
  refine VL.va (op_move rfl (ltn rfl)) rfl ?_
  refine VL.letter (decide (i16906 < 0)) fun b18610 hb18610 => ?_
  refine VL.va (op_cmp rfl rfl (congrArg some hb18610) (ltn rfl)) rfl ?_
  refine VL.done ?_
  refine VN.then ?_
  by_cases c18611 : i16906 < 0
  · rw [if_pos c18611] at h
    obtain rfl : b18610 = true := hb18610.symm.trans (decide_eq_true c18611)
    refine VC.cond_t rfl ?_
    refine VC.seq ?_
    refine VC.region ?_
    refine VL.va (op_build (vals := [(2, .int .i64 4)]) (vcs := [(2, [.int .i64 4])]) (cells := [.int .i64 0, .string (⟨#[]⟩ : ByteArray), .int .i64 4]) SI48 rfl (.cons ⟨rfl, (.c rfl)⟩ .nil) (by kernel_rfl) (ltn rfl)) rfl ?_
    refine VL.step1 (o_store 0 3 rfl rfl rfl TI48 (.agg (.of rfl)) rfl (len rfl)) rfl ?_
    refine VL.done ?_
    refine VN.then ?_
    refine VC.ret ?_
    refine VR.then ?_
    simp only [Option.some.injEq, Prod.mk.injEq] at h
    obtain ⟨rfl, rfl, rfl⟩ := h
    exact VR.fn (rs := [.cell 2 48]) [] [] [] rfl (.cell 0 rfl rfl TI48 (fun h => absurd h (by decide)) .nil) ⟨rfl, rfl, rfl⟩ trivial rfl (by decide)
  · rw [if_neg c18611] at h
    obtain rfl : b18610 = false := hb18610.symm.trans (decide_eq_false c18611)
    refine VC.cond_f rfl ?_
    refine VC.skip ?_
    refine VN.then ?_
    refine VC.seq ?_
    refine VC.region ?_
    refine VL.va (op_assign rfl (ltn rfl)) rfl ?_
    refine VL.done ?_
    refine VN.then ?_
    refine VC.join1 (fun (i19001 : Int) => ⟨79, [(0, .string a0), (2, .pointer (some ⟨g3002, 0, none⟩)), (3, .int .i64 i16906), (5, .int .i64 i19001)], [], [(g3002, 48, [.int .i64 0, .string (⟨#[]⟩ : ByteArray), .int .i64 0])], []⟩) (fun (i19001 : Int) => tarryref01_ReadNumber.j213 k a0 i16906 i19001 = some (r1, r2, r3)) ?_ ?_
    · refine VC.seq ?_
      refine VC.region ?_
      refine VL.va (op_move rfl (ltn rfl)) rfl ?_
      refine VL.va (op_assign rfl (ltn rfl)) rfl ?_
      refine VL.done ?_
      refine VN.then ?_
      refine VC.block ?_
      refine VC.loop2 (fun (i18987 : Int) (i18988 : Int) => ⟨79, [(0, .string a0), (2, .pointer (some ⟨g3002, 0, none⟩)), (3, .int .i64 i16906), (5, .int .i64 i18987), (6, .int .i64 i18988)], [], [(g3002, 48, [.int .i64 0, .string (⟨#[]⟩ : ByteArray), .int .i64 0])], []⟩) (fun (ml214 : Nat) (i18987 : Int) (i18988 : Int) => tarryref01_ReadNumber.l214 k a0 i16906 ml214 i18987 i18988 = some (r1, r2, r3)) k 0 i16906 [0] [] h ⟨rfl, ⟨rfl, rfl, rfl, rfl, rfl, trivial⟩, trivial, rfl, by decide, rfl, by decide⟩ (by intros; simp [tarryref01_ReadNumber.l214]) ?_
      clear h
      intro ml214 ihl214 i18987 i18988 h
      simp only [tarryref01_ReadNumber.l214] at h
      refine VC.seq ?_
      refine VC.seq ?_
      refine VC.region ?_
      refine VL.va (op_move rfl (ltn rfl)) rfl ?_
      refine VL.letter (decide (i18988 ≥ 0)) fun b18997 hb18997 => ?_
      refine VL.va (op_cmp rfl rfl (congrArg some hb18997) (ltn rfl)) rfl ?_
      refine VL.done ?_
      refine VN.then ?_
      by_cases c18998 : i18988 ≥ 0
      · rw [if_pos c18998] at h
        obtain rfl : b18997 = true := hb18997.symm.trans (decide_eq_true c18998)
        refine VC.cond_t rfl ?_
        refine VC.skip ?_
        refine VN.then ?_
        refine VC.seq ?_
        refine VC.block ?_
        refine VC.region ?_
        refine VL.va (op_move rfl (ltn rfl)) rfl ?_
        refine VL.va (op_ari64 rfl rfl rfl (ltn rfl)) rfl ?_
        refine VL.va (op_move rfl (ltn rfl)) rfl ?_
        refine VL.va (op_move rfl (ltn rfl)) rfl ?_
        by_cases c18999 : 0 ≤ i18988
        · rw [if_pos c18999] at h
          by_cases c19000 : i18988 < (a0.size : Int)
          · rw [if_pos c19000] at h
            refine VL.va (op_indexS Try.underlying9 rfl rfl c18999 c19000 rfl (ltn rfl)) rfl ?_
            refine VL.va (op_rem rfl rfl (by decide) rfl (ltn rfl)) rfl ?_
            refine VL.va (op_conv Try.underlying5 Try.underlying3 rfl (i64w _) (ltn rfl)) rfl ?_
            refine VL.va (op_ari64 rfl rfl rfl (ltn rfl)) rfl ?_
            refine VL.va (op_assign rfl (ltn rfl)) rfl ?_
            refine VL.done ?_
            refine VN.block ?_
            refine VN.then ?_
            refine VC.region ?_
            refine VL.va (op_move rfl (ltn rfl)) rfl ?_
            refine VL.va (op_ari64 rfl rfl rfl (ltn rfl)) rfl ?_
            refine VL.va (op_assign rfl (ltn rfl)) rfl ?_
            refine VL.done ?_
            refine VN.again [0] [] (ihl214 (wrap64 ((wrap64 (128 * i18987)) + (wrap64 ((bt a0 i18988).tmod 128)))) (wrap64 (i18988 - 1)) h) ⟨rfl, ⟨rfl, rfl, rfl, rfl, rfl, trivial⟩, trivial, rfl, by decide, rfl, by decide⟩
          · rw [if_neg c19000] at h; cases h
        · rw [if_neg c18999] at h; cases h
      · rw [if_neg c18998] at h
        obtain rfl : b18997 = false := hb18997.symm.trans (decide_eq_false c18998)
        refine VC.cond_f rfl ?_
        refine VC.exit ?_
        refine VX.then ?_
        refine VX.then ?_
        refine VX.hit ?_
        refine VN.meet1 i18987 [0] [] h ⟨rfl, ⟨rfl, rfl, rfl, rfl, trivial⟩, trivial, rfl, by decide, rfl, by decide⟩
    clear h
    intro i19001 h
    unfold tarryref01_ReadNumber.j213 at h
    refine VC.seq ?_
    refine VC.region ?_
    refine VL.va (op_move rfl (ltn rfl)) rfl ?_
    refine VL.va (op_quo rfl rfl (by decide) rfl (ltn rfl)) rfl ?_
    refine VL.va (op_assign rfl (ltn rfl)) rfl ?_
    refine VL.done ?_
    refine VN.then ?_
    refine VC.join1 (fun (i19113 : Int) => ⟨79, [(0, .string a0), (2, .pointer (some ⟨g3002, 0, none⟩)), (3, .int .i64 i16906), (7, .int .i64 i19113)], [], [(g3002, 48, [.int .i64 0, .string (⟨#[]⟩ : ByteArray), .int .i64 0])], []⟩) (fun (i19113 : Int) => tarryref01_ReadNumber.j215 k a0 i16906 i19113 = some (r1, r2, r3)) ?_ ?_
    · refine VC.seq ?_
      refine VC.region ?_
      refine VL.va (op_move rfl (ltn rfl)) rfl ?_
      refine VL.va (op_rem rfl rfl (by decide) rfl (ltn rfl)) rfl ?_
      refine VL.letter (((i19001.tmod 2) == 1)) fun b19111 hb19111 => ?_
      refine VL.va (op_cmp rfl rfl (congrArg some hb19111) (ltn rfl)) rfl ?_
      refine VL.done ?_
      refine VN.then ?_
      by_cases c19112 : (i19001.tmod 2) = 1
      · rw [if_pos c19112] at h
        obtain rfl : b19111 = true := hb19111.symm.trans (beq_iff_eq.2 c19112)
        refine VC.cond_t rfl ?_
        refine VC.region ?_
        refine VL.va (op_move rfl (ltn rfl)) rfl ?_
        refine VL.va (op_ari64 rfl rfl rfl (ltn rfl)) rfl ?_
        refine VL.va (op_ari64 rfl rfl rfl (ltn rfl)) rfl ?_
        refine VL.va (op_assign rfl (ltn rfl)) rfl ?_
        refine VL.done ?_
        refine VN.meet1 (wrap64 ((wrap64 (0 - (IntKind.i64.wrap (i19001.tdiv 2)))) - 1)) [0] [] h ⟨rfl, ⟨rfl, rfl, rfl, rfl, trivial⟩, trivial, rfl, by decide, rfl, by decide⟩
      · rw [if_neg c19112] at h
        obtain rfl : b19111 = false := hb19111.symm.trans (beq_eq_false_iff_ne.2 c19112)
        refine VC.cond_f rfl ?_
        refine VC.skip ?_
        refine VN.meet1 (IntKind.i64.wrap (i19001.tdiv 2)) [0] [] h ⟨rfl, ⟨rfl, rfl, rfl, rfl, trivial⟩, trivial, rfl, by decide, rfl, by decide⟩
    clear h
    intro i19113 h
    unfold tarryref01_ReadNumber.j215 at h
    refine VC.seq ?_
    refine VC.seq ?_
    refine VC.region ?_
    refine VL.va (op_move rfl (ltn rfl)) rfl ?_
    refine VL.va (op_move rfl (ltn rfl)) rfl ?_
    by_cases c19150 : 0 ≤ i16906
    · rw [if_pos c19150] at h
      by_cases c19151 : i16906 < (a0.size : Int)
      · rw [if_pos c19151] at h
        refine VL.va (op_indexS Try.underlying9 rfl rfl c19150 c19151 rfl (ltn rfl)) rfl ?_
        refine VL.letter (((bt a0 i16906) == 0)) fun b19152 hb19152 => ?_
        refine VL.va (op_cmp rfl rfl (congrArg some hb19152) (ltn rfl)) rfl ?_
        refine VL.va (op_move rfl (ltn rfl)) rfl ?_
        by_cases c19153 : (bt a0 i16906) = 0
        · rw [if_pos c19153] at h
          obtain rfl : b19152 = true := hb19152.symm.trans (beq_iff_eq.2 c19153)
          refine VL.va (op_move rfl (ltn rfl)) rfl ?_
          refine VL.letter (decide (i16906 > 0)) fun b19154 hb19154 => ?_
          refine VL.va (op_cmp rfl rfl (congrArg some hb19154) (ltn rfl)) rfl ?_
          refine VL.va (op_pick rfl rfl (ltn rfl)) rfl ?_
          refine VL.va (op_move rfl (ltn rfl)) rfl ?_
          by_cases c19155 : i16906 > 0
          · rw [if_pos c19155] at h
            obtain rfl : b19154 = true := hb19154.symm.trans (decide_eq_true c19155)
            refine VL.un rfl rfl (ltn rfl) ?_
            refine VL.un rfl rfl (ltn rfl) ?_
            refine VL.un rfl rfl (ltn rfl) ?_
            refine VL.va (op_pick rfl rfl (ltn rfl)) rfl ?_
            refine VL.done ?_
            refine VN.then ?_
            refine VC.cond_t rfl ?_
            refine VC.seq ?_
            refine VC.region ?_
            refine VL.va (op_build (vals := [(2, .int .i64 5)]) (vcs := [(2, [.int .i64 5])]) (cells := [.int .i64 0, .string (⟨#[]⟩ : ByteArray), .int .i64 5]) SI48 rfl (.cons ⟨rfl, (.c rfl)⟩ .nil) (by kernel_rfl) (ltn rfl)) rfl ?_
            refine VL.step1 (o_store 0 3 rfl rfl rfl TI48 (.agg (.of rfl)) rfl (len rfl)) rfl ?_
            refine VL.done ?_
            refine VN.then ?_
            refine VC.ret ?_
            refine VR.then ?_
            simp only [Option.some.injEq, Prod.mk.injEq] at h
            obtain ⟨rfl, rfl, rfl⟩ := h
            exact VR.fn (rs := [.cell 2 48]) [] [] [] rfl (.cell 0 rfl rfl TI48 (fun h => absurd h (by decide)) .nil) ⟨rfl, rfl, rfl⟩ trivial rfl (by decide)
          · rw [if_neg c19155] at h
            obtain rfl : b19154 = false := hb19154.symm.trans (decide_eq_false c19155)
            refine VL.va (op_move rfl (ltn rfl)) rfl ?_
            replace h := Option.bind_eq_some_iff.1 h
            obtain ⟨t19156, hA19157, h⟩ := h
            refine VL.sC (o_call0 FO29 (tarryref01_May.ok i19113 t19156 hA19157) rfl rfl (ltn rfl) (All_of .nil)) rfl ?_
            rintro _ _ _ ⟨rfl, rfl, rfl⟩
            by_cases c19158 : t19156 = true
            · rw [if_pos c19158] at h
              obtain rfl := c19158
              refine VL.va (op_not rfl rfl (ltn rfl)) rfl ?_
              refine VL.va (op_pick rfl rfl (ltn rfl)) rfl ?_
              refine VL.done ?_
              refine VN.then ?_
              refine VC.cond_f rfl ?_
              refine VC.skip ?_
              refine VN.then ?_
              refine VC.seq ?_
              refine VC.region ?_
              refine VL.va (op_move rfl (ltn rfl)) rfl ?_
              refine VL.va (op_move rfl (ltn rfl)) rfl ?_
              refine VL.va (op_move rfl (ltn rfl)) rfl ?_
              refine VL.va (op_ari64 rfl rfl rfl (ltn rfl)) rfl ?_
              by_cases c19159 : 0 ≤ wrap64 (i16906 + 1)
              · rw [if_pos c19159] at h
                by_cases c19160 : (wrap64 (i16906 + 1)) ≤ (a0.size : Int)
                · rw [if_pos c19160] at h
                  refine VL.va (op_sliceS ((wrap64 (i16906 + 1)).toNat) a0.size Try.underlying9 rfl ⟨⟨_, _, rfl, c19159, rfl⟩, rfl, by omega, by omega⟩ rfl (ltn rfl)) rfl ?_
                  refine VL.va (op_build (vals := [(0, .int .i64 i19113), (1, .string (a0.extract ((wrap64 (i16906 + 1)).toNat) a0.size))]) (vcs := [(0, [.int .i64 i19113]), (1, [.string (a0.extract ((wrap64 (i16906 + 1)).toNat) a0.size)])]) (cells := [.int .i64 i19113, .string (a0.extract ((wrap64 (i16906 + 1)).toNat) a0.size), .int .i64 0]) SI48 rfl (.cons ⟨rfl, (.c rfl)⟩ (.cons ⟨rfl, (.c rfl)⟩ .nil)) (by kernel_rfl) (ltn rfl)) rfl ?_
                  refine VL.step1 (o_store 0 3 rfl rfl rfl TI48 (.agg (.of rfl)) rfl (len rfl)) rfl ?_
                  refine VL.done ?_
                  refine VN.then ?_
                  refine VC.ret ?_
                  simp only [Option.some.injEq, Prod.mk.injEq] at h
                  obtain ⟨rfl, rfl, rfl⟩ := h
                  exact VR.fn (rs := [.cell 2 48]) [] [] [] rfl (.cell 0 rfl rfl TI48 (fun h => absurd h (by decide)) .nil) ⟨rfl, rfl, rfl⟩ trivial rfl (by decide)
                · rw [if_neg c19160] at h; cases h
              · rw [if_neg c19159] at h; cases h
            · rw [if_neg c19158] at h
              obtain rfl := Bool.eq_false_iff.2 c19158
              refine VL.va (op_not rfl rfl (ltn rfl)) rfl ?_
              refine VL.va (op_pick rfl rfl (ltn rfl)) rfl ?_
              refine VL.done ?_
              refine VN.then ?_
              refine VC.cond_t rfl ?_
              refine VC.seq ?_
              refine VC.region ?_
              refine VL.va (op_build (vals := [(2, .int .i64 5)]) (vcs := [(2, [.int .i64 5])]) (cells := [.int .i64 0, .string (⟨#[]⟩ : ByteArray), .int .i64 5]) SI48 rfl (.cons ⟨rfl, (.c rfl)⟩ .nil) (by kernel_rfl) (ltn rfl)) rfl ?_
              refine VL.step1 (o_store 0 3 rfl rfl rfl TI48 (.agg (.of rfl)) rfl (len rfl)) rfl ?_
              refine VL.done ?_
              refine VN.then ?_
              refine VC.ret ?_
              refine VR.then ?_
              simp only [Option.some.injEq, Prod.mk.injEq] at h
              obtain ⟨rfl, rfl, rfl⟩ := h
              exact VR.fn (rs := [.cell 2 48]) [] [] [] rfl (.cell 0 rfl rfl TI48 (fun h => absurd h (by decide)) .nil) ⟨rfl, rfl, rfl⟩ trivial rfl (by decide)
        · rw [if_neg c19153] at h
          obtain rfl : b19152 = false := hb19152.symm.trans (beq_eq_false_iff_ne.2 c19153)
          refine VL.un rfl rfl (ltn rfl) ?_
          refine VL.un rfl rfl (ltn rfl) ?_
          refine VL.va (op_pick rfl rfl (ltn rfl)) rfl ?_
          refine VL.va (op_move rfl (ltn rfl)) rfl ?_
          refine VL.va (op_move rfl (ltn rfl)) rfl ?_
          replace h := Option.bind_eq_some_iff.1 h
          obtain ⟨t19161, hA19162, h⟩ := h
          refine VL.sC (o_call0 FO29 (tarryref01_May.ok i19113 t19161 hA19162) rfl rfl (ltn rfl) (All_of .nil)) rfl ?_
          rintro _ _ _ ⟨rfl, rfl, rfl⟩
          by_cases c19163 : t19161 = true
          · rw [if_pos c19163] at h
            obtain rfl := c19163
            refine VL.va (op_not rfl rfl (ltn rfl)) rfl ?_
            refine VL.va (op_pick rfl rfl (ltn rfl)) rfl ?_
            refine VL.done ?_
            refine VN.then ?_
            refine VC.cond_f rfl ?_
            refine VC.skip ?_
            refine VN.then ?_
            refine VC.seq ?_
            refine VC.region ?_
            refine VL.va (op_move rfl (ltn rfl)) rfl ?_
            refine VL.va (op_move rfl (ltn rfl)) rfl ?_
            refine VL.va (op_move rfl (ltn rfl)) rfl ?_
            refine VL.va (op_ari64 rfl rfl rfl (ltn rfl)) rfl ?_
            by_cases c19164 : 0 ≤ wrap64 (i16906 + 1)
            · rw [if_pos c19164] at h
              by_cases c19165 : (wrap64 (i16906 + 1)) ≤ (a0.size : Int)
              · rw [if_pos c19165] at h
                refine VL.va (op_sliceS ((wrap64 (i16906 + 1)).toNat) a0.size Try.underlying9 rfl ⟨⟨_, _, rfl, c19164, rfl⟩, rfl, by omega, by omega⟩ rfl (ltn rfl)) rfl ?_
                refine VL.va (op_build (vals := [(0, .int .i64 i19113), (1, .string (a0.extract ((wrap64 (i16906 + 1)).toNat) a0.size))]) (vcs := [(0, [.int .i64 i19113]), (1, [.string (a0.extract ((wrap64 (i16906 + 1)).toNat) a0.size)])]) (cells := [.int .i64 i19113, .string (a0.extract ((wrap64 (i16906 + 1)).toNat) a0.size), .int .i64 0]) SI48 rfl (.cons ⟨rfl, (.c rfl)⟩ (.cons ⟨rfl, (.c rfl)⟩ .nil)) (by kernel_rfl) (ltn rfl)) rfl ?_
                refine VL.step1 (o_store 0 3 rfl rfl rfl TI48 (.agg (.of rfl)) rfl (len rfl)) rfl ?_
                refine VL.done ?_
                refine VN.then ?_
                refine VC.ret ?_
                simp only [Option.some.injEq, Prod.mk.injEq] at h
                obtain ⟨rfl, rfl, rfl⟩ := h
                exact VR.fn (rs := [.cell 2 48]) [] [] [] rfl (.cell 0 rfl rfl TI48 (fun h => absurd h (by decide)) .nil) ⟨rfl, rfl, rfl⟩ trivial rfl (by decide)
              · rw [if_neg c19165] at h; cases h
            · rw [if_neg c19164] at h; cases h
          · rw [if_neg c19163] at h
            obtain rfl := Bool.eq_false_iff.2 c19163
            refine VL.va (op_not rfl rfl (ltn rfl)) rfl ?_
            refine VL.va (op_pick rfl rfl (ltn rfl)) rfl ?_
            refine VL.done ?_
            refine VN.then ?_
            refine VC.cond_t rfl ?_
            refine VC.seq ?_
            refine VC.region ?_
            refine VL.va (op_build (vals := [(2, .int .i64 5)]) (vcs := [(2, [.int .i64 5])]) (cells := [.int .i64 0, .string (⟨#[]⟩ : ByteArray), .int .i64 5]) SI48 rfl (.cons ⟨rfl, (.c rfl)⟩ .nil) (by kernel_rfl) (ltn rfl)) rfl ?_
            refine VL.step1 (o_store 0 3 rfl rfl rfl TI48 (.agg (.of rfl)) rfl (len rfl)) rfl ?_
            refine VL.done ?_
            refine VN.then ?_
            refine VC.ret ?_
            refine VR.then ?_
            simp only [Option.some.injEq, Prod.mk.injEq] at h
            obtain ⟨rfl, rfl, rfl⟩ := h
            exact VR.fn (rs := [.cell 2 48]) [] [] [] rfl (.cell 0 rfl rfl TI48 (fun h => absurd h (by decide)) .nil) ⟨rfl, rfl, rfl⟩ trivial rfl (by decide)
      · rw [if_neg c19151] at h; cases h
    · rw [if_neg c19150] at h; cases h
set_option maxHeartbeats 4000000 in
set_option maxRecDepth 100000 in
theorem tarryref02_Off.ok (k : Nat) (a0 : Int)  (r1 : Int) (h : tarryref02_Off.f k a0 = some r1) :
    VCalls Try.prog 32 [.int .u32 a0] [] (fun v G own => v = .int .u32 r1 ∧ G = [] ∧ own = []) := by
  refine VCalls.intro Try.func32 rfl (len rfl) fun E hC hW hD => ?_
  unfold tarryref02_Off.f at h
  refine VC.seq ?_
  refine VC.region ?_
  refine VL.va (op_assign rfl (ltn rfl)) rfl ?_
  refine VL.done ?_
  refine VN.then ?_
  refine VC.seq ?_
  refine VC.seq ?_
  refine VC.region ?_
  refine VL.va (op_assign rfl (ltn rfl)) rfl ?_
  refine VL.done ?_
  refine VN.then ?_
  refine VC.block ?_
  refine VC.loop2 (fun (i19237 : Int) (i19238 : Int) => ⟨17, [(0, .int .u32 i19237), (2, .int .u32 0), (3, .int .i64 i19238)], [], [], []⟩) (fun (ml1 : Nat) (i19237 : Int) (i19238 : Int) => tarryref02_Off.l1 k ml1 i19237 i19238 = some r1) k a0 0 [] [] h ⟨rfl, ⟨rfl, rfl, rfl, trivial⟩, trivial, rfl, by decide, rfl, by decide⟩ (by intros; simp [tarryref02_Off.l1]) ?_
  clear h
  intro ml1 ihl1 i19237 i19238 h
  simp only [tarryref02_Off.l1] at h
  refine VC.seq ?_
  refine VC.seq ?_
  refine VC.region ?_
  refine VL.va (op_move rfl (ltn rfl)) rfl ?_
  refine VL.letter (decide (i19238 < 8)) fun b19249 hb19249 => ?_
  refine VL.va (op_cmp rfl rfl (congrArg some hb19249) (ltn rfl)) rfl ?_
  refine VL.done ?_
  refine VN.then ?_
  by_cases c19250 : i19238 < 8
  · rw [if_pos c19250] at h
    obtain rfl : b19249 = true := hb19249.symm.trans (decide_eq_true c19250)
    refine VC.cond_t rfl ?_
    refine VC.skip ?_
    refine VN.then ?_
    refine VC.seq ?_
    refine VC.block ?_
    refine VC.seq ?_
    refine VC.region ?_
    refine VL.va (op_move rfl (ltn rfl)) rfl ?_
    refine VL.va (op_rem rfl rfl (by decide) rfl (ltn rfl)) rfl ?_
    refine VL.letter (((i19237.tmod 2) == 1)) fun b19253 hb19253 => ?_
    refine VL.va (op_cmp rfl rfl (congrArg some hb19253) (ltn rfl)) rfl ?_
    refine VL.done ?_
    refine VN.then ?_
    by_cases c19254 : (i19237.tmod 2) = 1
    · rw [if_pos c19254] at h
      obtain rfl : b19253 = true := hb19253.symm.trans (beq_iff_eq.2 c19254)
      refine VC.cond_t rfl ?_
      refine VC.region ?_
      refine VL.va (op_move rfl (ltn rfl)) rfl ?_
      refine VL.va (op_quo rfl rfl (by decide) rfl (ltn rfl)) rfl ?_
      refine VL.va (op_bits rfl rfl rfl (ltn rfl)) rfl ?_
      refine VL.va (op_assign rfl (ltn rfl)) rfl ?_
      refine VL.done ?_
      refine VN.block ?_
      refine VN.then ?_
      refine VC.region ?_
      refine VL.va (op_move rfl (ltn rfl)) rfl ?_
      refine VL.va (op_ari64 rfl rfl rfl (ltn rfl)) rfl ?_
      refine VL.va (op_assign rfl (ltn rfl)) rfl ?_
      refine VL.done ?_
      refine VN.again [] [] (ihl1 (Go.bits .xor .u32 (IntKind.u32.wrap (i19237.tdiv 2)) 2197175160) (wrap64 (i19238 + 1)) h) ⟨rfl, ⟨rfl, rfl, rfl, trivial⟩, trivial, rfl, by decide, rfl, by decide⟩
    · rw [if_neg c19254] at h
      obtain rfl : b19253 = false := hb19253.symm.trans (beq_eq_false_iff_ne.2 c19254)
      refine VC.cond_f rfl ?_
      refine VC.region ?_
      refine VL.va (op_move rfl (ltn rfl)) rfl ?_
      refine VL.va (op_quo rfl rfl (by decide) rfl (ltn rfl)) rfl ?_
      refine VL.va (op_assign rfl (ltn rfl)) rfl ?_
      refine VL.done ?_
      refine VN.block ?_
      refine VN.then ?_
      refine VC.region ?_
      refine VL.va (op_move rfl (ltn rfl)) rfl ?_
      refine VL.va (op_ari64 rfl rfl rfl (ltn rfl)) rfl ?_
      refine VL.va (op_assign rfl (ltn rfl)) rfl ?_
      refine VL.done ?_
      refine VN.again [] [] (ihl1 (IntKind.u32.wrap (i19237.tdiv 2)) (wrap64 (i19238 + 1)) h) ⟨rfl, ⟨rfl, rfl, rfl, trivial⟩, trivial, rfl, by decide, rfl, by decide⟩
  · rw [if_neg c19250] at h
    obtain rfl : b19249 = false := hb19249.symm.trans (decide_eq_false c19250)
    refine VC.cond_f rfl ?_
    refine VC.exit ?_
    refine VX.then ?_
    refine VX.then ?_
    refine VX.hit ?_
    refine VN.then ?_
    refine VC.seq ?_
    refine VC.region ?_
    refine VL.va (op_move rfl (ltn rfl)) rfl ?_
    refine VL.va (op_assign rfl (ltn rfl)) rfl ?_
    refine VL.done ?_
    refine VN.then ?_
    refine VC.ret ?_
    obtain rfl := Option.some.inj h
    exact VR.fn (rs := [.tmp 2]) [] [] [] rfl (.tmp rfl .nil) ⟨rfl, rfl, rfl⟩ trivial rfl (by decide)
set_option maxHeartbeats 4000000 in
set_option maxRecDepth 100000 in
theorem tarryref02_On.ok (k : Nat) (a0 : Int) (a1 : ByteArray)  (r1 : Int) (h : tarryref02_On.f k a0 a1 = some r1) :
    VCalls Try.prog 30 [.int .u32 a0, .string a1] [] (fun v G own => v = .int .u32 r1 ∧ G = [] ∧ own = []) := by
  refine VCalls.intro Try.func30 rfl (len rfl) fun E hC hW hD => ?_
  unfold tarryref02_On.f at h
  refine VC.seq ?_
  refine VC.region ?_
  refine VL.va (op_assign rfl (ltn rfl)) rfl ?_
  refine VL.done ?_
  refine VN.then ?_
  refine VC.seq ?_
  refine VC.region ?_
  refine VL.va (op_move rfl (ltn rfl)) rfl ?_
  refine VL.va (op_ari rfl rfl rfl (ltn rfl)) rfl ?_
  refine VL.va (op_assign rfl (ltn rfl)) rfl ?_
  refine VL.done ?_
  refine VN.then ?_
  refine VC.seq ?_
  refine VC.seq ?_
  refine VC.region ?_
  refine VL.va (op_assign rfl (ltn rfl)) rfl ?_
  refine VL.done ?_
  refine VN.then ?_
  refine VC.block ?_
  refine VC.loop2 (fun (i19282 : Int) (i19283 : Int) => ⟨23, [(0, .int .u32 i19282), (1, .string a1), (4, .int .u32 0), (5, .int .i64 i19283)], [], [], []⟩) (fun (ml1 : Nat) (i19282 : Int) (i19283 : Int) => tarryref02_On.l1 k a1 ml1 i19282 i19283 = some r1) k (IntKind.u32.wrap (4294967295 - a0)) 0 [] [] h ⟨rfl, ⟨rfl, rfl, rfl, rfl, trivial⟩, trivial, rfl, by decide, rfl, by decide⟩ (by intros; simp [tarryref02_On.l1]) ?_
  clear h
  intro ml1 ihl1 i19282 i19283 h
  simp only [tarryref02_On.l1] at h
  refine VC.seq ?_
  refine VC.seq ?_
  refine VC.region ?_
  refine VL.va (op_move rfl (ltn rfl)) rfl ?_
  refine VL.va (op_move rfl (ltn rfl)) rfl ?_
  refine VL.va (op_lens Try.underlying9 rfl (ltn rfl)) rfl ?_
  refine VL.letter (decide (i19283 < (a1.size : Int))) fun b19294 hb19294 => ?_
  refine VL.va (op_cmp rfl rfl (congrArg some hb19294) (ltn rfl)) rfl ?_
  refine VL.done ?_
  refine VN.then ?_
  by_cases c19295 : i19283 < (a1.size : Int)
  · rw [if_pos c19295] at h
    obtain rfl : b19294 = true := hb19294.symm.trans (decide_eq_true c19295)
    refine VC.cond_t rfl ?_
    refine VC.skip ?_
    refine VN.then ?_
    refine VC.seq ?_
    refine VC.block ?_
    refine VC.region ?_
    refine VL.va (op_move rfl (ltn rfl)) rfl ?_
    refine VL.va (op_move rfl (ltn rfl)) rfl ?_
    refine VL.va (op_move rfl (ltn rfl)) rfl ?_
    by_cases c19296 : 0 ≤ i19283
    · rw [if_pos c19296] at h
      by_cases c19297 : i19283 < (a1.size : Int)
      · rw [if_pos c19297] at h
        refine VL.va (op_indexS Try.underlying9 rfl rfl c19296 c19297 rfl (ltn rfl)) rfl ?_
        refine VL.va (op_conv Try.underlying5 Try.underlying23 rfl rfl (ltn rfl)) rfl ?_
        refine VL.va (op_bits rfl rfl rfl (ltn rfl)) rfl ?_
        replace h := Option.bind_eq_some_iff.1 h
        obtain ⟨t19298, hA19299, h⟩ := h
        refine VL.sC (o_call0 FO32 (tarryref02_Off.ok k (Go.bits .xor .u32 i19282 (IntKind.u32.wrap (bt a1 i19283))) t19298 hA19299) rfl rfl (ltn rfl) (All_of .nil)) rfl ?_
        rintro _ _ _ ⟨rfl, rfl, rfl⟩
        refine VL.va (op_assign rfl (ltn rfl)) rfl ?_
        refine VL.done ?_
        refine VN.block ?_
        refine VN.then ?_
        refine VC.region ?_
        refine VL.va (op_move rfl (ltn rfl)) rfl ?_
        refine VL.va (op_ari64 rfl rfl rfl (ltn rfl)) rfl ?_
        refine VL.va (op_assign rfl (ltn rfl)) rfl ?_
        refine VL.done ?_
        refine VN.again [] [] (ihl1 t19298 (wrap64 (i19283 + 1)) h) ⟨rfl, ⟨rfl, rfl, rfl, rfl, trivial⟩, trivial, rfl, by decide, rfl, by decide⟩
      · rw [if_neg c19297] at h; cases h
    · rw [if_neg c19296] at h; cases h
  · rw [if_neg c19295] at h
    obtain rfl : b19294 = false := hb19294.symm.trans (decide_eq_false c19295)
    refine VC.cond_f rfl ?_
    refine VC.exit ?_
    refine VX.then ?_
    refine VX.then ?_
    refine VX.hit ?_
    refine VN.then ?_
    refine VC.seq ?_
    refine VC.region ?_
    refine VL.va (op_move rfl (ltn rfl)) rfl ?_
    refine VL.va (op_ari rfl rfl rfl (ltn rfl)) rfl ?_
    refine VL.va (op_assign rfl (ltn rfl)) rfl ?_
    refine VL.done ?_
    refine VN.then ?_
    refine VC.ret ?_
    obtain rfl := Option.some.inj h
    exact VR.fn (rs := [.tmp 4]) [] [] [] rfl (.tmp rfl .nil) ⟨rfl, rfl, rfl⟩ trivial rfl (by decide)
set_option maxHeartbeats 4000000 in
set_option maxRecDepth 100000 in
theorem tarryref02_Of.ok (k : Nat) (a0 : ByteArray)  (r1 : Int) (h : tarryref02_Of.f k a0 = some r1) :
    VCalls Try.prog 22 [.string a0] [] (fun v G own => v = .int .u32 r1 ∧ G = [] ∧ own = []) := by
  refine VCalls.intro Try.func22 rfl (len rfl) fun E hC hW hD => ?_
  unfold tarryref02_Of.f at h
  refine VC.seq ?_
  refine VC.region ?_
  refine VL.va (op_assign rfl (ltn rfl)) rfl ?_
  refine VL.done ?_
  refine VN.then ?_
  refine VC.seq ?_
  refine VC.region ?_
  refine VL.va (op_move rfl (ltn rfl)) rfl ?_
  replace h := Option.bind_eq_some_iff.1 h
  obtain ⟨t19300, hA19301, h⟩ := h
  refine VL.sC (o_call0 FO30 (tarryref02_On.ok k 0 a0 t19300 hA19301) rfl rfl (ltn rfl) (All_of .nil)) rfl ?_
  rintro _ _ _ ⟨rfl, rfl, rfl⟩
  refine VL.va (op_assign rfl (ltn rfl)) rfl ?_
  refine VL.done ?_
  refine VN.then ?_
  refine VC.ret ?_
  obtain rfl := Option.some.inj h
  exact VR.fn (rs := [.tmp 2]) [] [] [] rfl (.tmp rfl .nil) ⟨rfl, rfl, rfl⟩ trivial rfl (by decide)
set_option maxHeartbeats 4000000 in
set_option maxRecDepth 100000 in
theorem tarryref02_Bytes.ok (k : Nat) (a0 : Int)  (r1 : ByteArray) (h : tarryref02_Bytes.f k a0 = some r1) :
    VCalls Try.prog 21 [.int .u32 a0] [] (fun v G own => v = .string r1 ∧ G = [] ∧ own = []) := by
  refine VCalls.intro Try.func21 rfl (len rfl) fun E hC hW hD => ?_
  unfold tarryref02_Bytes.f at h
  refine VC.seq ?_
  refine VC.region ?_
  refine VL.va (op_assign rfl (ltn rfl)) rfl ?_
  refine VL.done ?_
  refine VN.then ?_
  refine VC.seq ?_
  refine VC.region ?_
  refine VL.sG (o_buildSlice (vals := []) (cells := #[]) (es := List.map enc_intu8 ([] : List Int)) Try.underlying29 TI5 Z5 rfl (by decide) (by decide) (by kernel_rfl) (by kernel_rfl) rfl (flat_map enc_intu8_ok _) (ltn rfl)) rfl ?_
  intro v19305
  refine VL.va (op_assign rfl (ltn rfl)) rfl ?_
  refine VL.done ?_
  refine VN.then ?_
  refine VC.seq ?_
  refine VC.seq ?_
  refine VC.region ?_
  refine VL.va (op_assign rfl (ltn rfl)) rfl ?_
  refine VL.done ?_
  refine VN.then ?_
  refine VC.block ?_
  refine VC.loop4 (fun (i19339 : Int) (v19341 : Value) (l19342 : List Int) (i19343 : Int) => ⟨20, [(0, .int .u32 i19339), (2, .string (⟨#[]⟩ : ByteArray)), (3, v19341), (4, .int .i64 i19343)], [], [], [(v19341, 5, 1, l19342.map enc_intu8)]⟩) (fun (ml1 : Nat) (i19339 : Int) (v19341 : Value) (l19342 : List Int) (i19343 : Int) => tarryref02_Bytes.l1 k ml1 i19339 l19342 i19343 = some r1) k a0 v19305 ([] : List Int) 0 [] [0] h ⟨rfl, ⟨rfl, rfl, rfl, rfl, trivial⟩, trivial, rfl, by decide, rfl, by decide⟩ (by intros; simp [tarryref02_Bytes.l1]) ?_
  clear h
  intro ml1 ihl1 i19339 v19341 l19342 i19343 h
  simp only [tarryref02_Bytes.l1] at h
  refine VC.seq ?_
  refine VC.seq ?_
  refine VC.region ?_
  refine VL.va (op_move rfl (ltn rfl)) rfl ?_
  refine VL.letter (decide (i19343 < 4)) fun b19355 hb19355 => ?_
  refine VL.va (op_cmp rfl rfl (congrArg some hb19355) (ltn rfl)) rfl ?_
  refine VL.done ?_
  refine VN.then ?_
  by_cases c19356 : i19343 < 4
  · rw [if_pos c19356] at h
    obtain rfl : b19355 = true := hb19355.symm.trans (decide_eq_true c19356)
    refine VC.cond_t rfl ?_
    refine VC.skip ?_
    refine VN.then ?_
    refine VC.seq ?_
    refine VC.block ?_
    refine VC.seq ?_
    refine VC.region ?_
    refine VL.va (op_move rfl (ltn rfl)) rfl ?_
    refine VL.va (op_move rfl (ltn rfl)) rfl ?_
    refine VL.va (op_rem rfl rfl (by decide) rfl (ltn rfl)) rfl ?_
    refine VL.va (op_conv Try.underlying23 Try.underlying5 rfl rfl (ltn rfl)) rfl ?_
    refine VL.sG (o_buildSlice (vals := [(0, .int .u8 (IntKind.u8.wrap (i19339.tmod 256)))]) (cells := #[.int .u8 (IntKind.u8.wrap (i19339.tmod 256))]) (es := List.map enc_intu8 ([IntKind.u8.wrap (i19339.tmod 256)] : List Int)) Try.underlying29 TI5 Z5 rfl (by decide) (by decide) (by kernel_rfl) (by kernel_rfl) rfl (flat_map enc_intu8_ok _) (ltn rfl)) rfl ?_
    intro v19358
    by_cases c19359 : (l19342.length + ([IntKind.u8.wrap (i19339.tmod 256)] : List Int).length) * 1 ≤ 140737488355328
    · rw [if_pos c19359] at h
      refine VL.sG (o_append 1 appm Try.underlying29 EI5 rfl rfl rfl (.inr ⟨0, _, rfl⟩) (bndm c19359) (ltn rfl)) rfl ?_
      intro v19360
      refine VL.va (op_assign rfl (ltn rfl)) rfl ?_
      refine VL.done ?_
      refine VN.then ?_
      refine VC.region ?_
      refine VL.va (op_move rfl (ltn rfl)) rfl ?_
      refine VL.va (op_quo rfl rfl (by decide) rfl (ltn rfl)) rfl ?_
      refine VL.va (op_assign rfl (ltn rfl)) rfl ?_
      refine VL.done ?_
      refine VN.block ?_
      refine VN.then ?_
      refine VC.region ?_
      refine VL.va (op_move rfl (ltn rfl)) rfl ?_
      refine VL.va (op_ari64 rfl rfl rfl (ltn rfl)) rfl ?_
      refine VL.va (op_assign rfl (ltn rfl)) rfl ?_
      refine VL.done ?_
      refine VN.again [] [1] (ihl1 (IntKind.u32.wrap (i19339.tdiv 256)) v19360 (l19342 ++ ([IntKind.u8.wrap (i19339.tmod 256)] : List Int)) (wrap64 (i19343 + 1)) h) ⟨rfl, ⟨rfl, rfl, rfl, rfl, trivial⟩, trivial, rfl, by decide, rfl, by decide⟩
    · rw [if_neg c19359] at h; cases h
  · rw [if_neg c19356] at h
    obtain rfl : b19355 = false := hb19355.symm.trans (decide_eq_false c19356)
    refine VC.cond_f rfl ?_
    refine VC.exit ?_
    refine VX.then ?_
    refine VX.then ?_
    refine VX.hit ?_
    refine VN.then ?_
    refine VC.seq ?_
    refine VC.region ?_
    refine VL.va (op_move rfl (ltn rfl)) rfl ?_
    refine VL.va (op_bytesStr_own (xs := l19342) 0 rfl rfl Try.underlying29 Try.underlying9 Try.underlying5 rfl rfl (ltn rfl)) rfl ?_
    refine VL.va (op_assign rfl (ltn rfl)) rfl ?_
    refine VL.done ?_
    refine VN.then ?_
    refine VC.ret ?_
    obtain rfl := Option.some.inj h
    exact VR.fn (rs := [.tmp 2]) [] [] [] rfl (.tmp rfl .nil) ⟨rfl, rfl, rfl⟩ trivial rfl (by decide)

end Go.Proofs.Ytaolaicmfjdmhaa.PFrameScans
