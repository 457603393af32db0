/- Written by a program of this repo: what the program's functions do, each as a Lean function, shown of the loaded code; or a statement's row over that; no condition of its own. -/
import Derived.Test.YtacenfolbmdpoaaPPackRowsx2
namespace Go.Proofs.Ytacenfolbmdpoaa.PPackRows
open Go Go.RowKit Go.Proofs.YtacenfolbmdpoaaV
set_option linter.unusedVariables false
set_option linter.unusedSimpArgs false

set_option maxHeartbeats 4000000 in
set_option maxRecDepth 100000 in
theorem tarryref01_ReadNumber.ok (k : Nat) (a0 : ByteArray)  (r1 : Int) (r2 : ByteArray) (r3 : Int) (h : tarryref01_ReadNumber.f k a0 = some (r1, r2, r3)) :
    VCalls Try.prog 10 [.string a0] [] (fun v G own => v = .agg #[.int .i64 r1, .string r2, .int .i64 r3] ∧ G = [] ∧ own = []) := by
  refine VCalls.intro Try.func10 rfl (len rfl) fun E hC hW hD hU => ?_
  unfold tarryref01_ReadNumber.f at h
  refine VC.seq ?_
  refine VC.region ?_
  refine VL.sG (o_alloc Z28 ZL28 (ltn rfl)) rfl ?_
  intro g2331
  refine VL.done ?_
  refine VN.then ?_
  refine VC.seq ?_
  refine VC.region ?_
  refine VL.va (op_assign rfl (ltn rfl)) rfl ?_
  refine VL.done ?_
  refine VN.then ?_
  refine VC.join1 (fun (i16235 : Int) => ⟨79, [(0, .string a0), (2, .pointer (some ⟨g2331, 0, none⟩)), (3, .int .i64 i16235)], [], [(g2331, 28, [.int .i64 0, .string (⟨#[]⟩ : ByteArray), .int .i64 0])], []⟩) (fun (i16235 : Int) => tarryref01_ReadNumber.j184 k a0 i16235 = some (r1, r2, r3)) ?_ ?_
  · refine VC.seq ?_
    refine VC.region ?_
    refine VL.va (op_assign rfl (ltn rfl)) rfl ?_
    refine VL.done ?_
    refine VN.then ?_
    refine VC.block ?_
    refine VC.loop2 (fun (i16161 : Int) (i16162 : Int) => ⟨79, [(0, .string a0), (2, .pointer (some ⟨g2331, 0, none⟩)), (3, .int .i64 i16161), (4, .int .i64 i16162)], [], [(g2331, 28, [.int .i64 0, .string (⟨#[]⟩ : ByteArray), .int .i64 0])], []⟩) (fun (ml185 : Nat) (i16161 : Int) (i16162 : Int) => tarryref01_ReadNumber.l185 k a0 ml185 i16161 i16162 = some (r1, r2, r3)) k (-1) 0 [0] [] h ⟨rfl, ⟨rfl, rfl, rfl, rfl, trivial⟩, trivial, rfl, by decide, rfl, by decide⟩ (by intros; simp [tarryref01_ReadNumber.l185]) ?_
    clear h
    intro ml185 ihl185 i16161 i16162 h
    simp only [tarryref01_ReadNumber.l185] at h
    refine VC.seq ?_
    refine VC.seq ?_
    refine VC.region ?_
    refine VL.va (op_move rfl (ltn rfl)) rfl ?_
    refine VL.va (op_move rfl (ltn rfl)) rfl ?_
    refine VL.va (op_lens Try.underlying9 rfl (ltn rfl)) rfl ?_
    refine VL.letter (decide (i16162 < (a0.size : Int))) fun b16209 hb16209 => ?_
    refine VL.va (op_cmp rfl rfl (congrArg some hb16209) (ltn rfl)) rfl ?_
    refine VL.va (op_move rfl (ltn rfl)) rfl ?_
    by_cases c16210 : i16162 < (a0.size : Int)
    · rw [if_pos c16210] at h
      obtain rfl : b16209 = true := hb16209.symm.trans (decide_eq_true c16210)
      refine VL.va (op_move rfl (ltn rfl)) rfl ?_
      refine VL.letter (decide (i16162 < 9)) fun b16211 hb16211 => ?_
      refine VL.va (op_cmp rfl rfl (congrArg some hb16211) (ltn rfl)) rfl ?_
      refine VL.va (op_pick rfl rfl (ltn rfl)) rfl ?_
      refine VL.done ?_
      refine VN.then ?_
      by_cases c16212 : i16162 < 9
      · rw [if_pos c16212] at h
        obtain rfl : b16211 = true := hb16211.symm.trans (decide_eq_true c16212)
        refine VC.cond_t rfl ?_
        refine VC.skip ?_
        refine VN.then ?_
        refine VC.seq ?_
        refine VC.block ?_
        refine VC.seq ?_
        refine VC.region ?_
        refine VL.va (op_move rfl (ltn rfl)) rfl ?_
        refine VL.letter (decide (i16161 < 0)) fun b16229 hb16229 => ?_
        refine VL.va (op_cmp rfl rfl (congrArg some hb16229) (ltn rfl)) rfl ?_
        refine VL.va (op_move rfl (ltn rfl)) rfl ?_
        by_cases c16230 : i16161 < 0
        · rw [if_pos c16230] at h
          obtain rfl : b16229 = true := hb16229.symm.trans (decide_eq_true c16230)
          refine VL.va (op_move rfl (ltn rfl)) rfl ?_
          refine VL.va (op_move rfl (ltn rfl)) rfl ?_
          by_cases c16231 : 0 ≤ i16162
          · rw [if_pos c16231] at h
            by_cases c16232 : i16162 < (a0.size : Int)
            · rw [if_pos c16232] at h
              refine VL.va (op_indexS Try.underlying9 rfl rfl c16231 c16232 rfl (ltn rfl)) rfl ?_
              refine VL.letter (decide ((bt a0 i16162) < 128)) fun b16233 hb16233 => ?_
              refine VL.va (op_cmp rfl rfl (congrArg some hb16233) (ltn rfl)) rfl ?_
              refine VL.va (op_pick rfl rfl (ltn rfl)) rfl ?_
              refine VL.done ?_
              refine VN.then ?_
              by_cases c16234 : (bt a0 i16162) < 128
              · rw [if_pos c16234] at h
                obtain rfl : b16233 = true := hb16233.symm.trans (decide_eq_true c16234)
                refine VC.cond_t rfl ?_
                refine VC.region ?_
                refine VL.va (op_move rfl (ltn rfl)) rfl ?_
                refine VL.va (op_assign rfl (ltn rfl)) rfl ?_
                refine VL.done ?_
                refine VN.block ?_
                refine VN.then ?_
                refine VC.region ?_
                refine VL.va (op_move rfl (ltn rfl)) rfl ?_
                refine VL.va (op_ari64 rfl rfl rfl (ltn rfl)) rfl ?_
                refine VL.va (op_assign rfl (ltn rfl)) rfl ?_
                refine VL.done ?_
                refine VN.again [0] [] (ihl185 i16162 (wrap64 (i16162 + 1)) h) ⟨rfl, ⟨rfl, rfl, rfl, rfl, trivial⟩, trivial, rfl, by decide, rfl, by decide⟩
              · rw [if_neg c16234] at h
                obtain rfl : b16233 = false := hb16233.symm.trans (decide_eq_false c16234)
                refine VC.cond_f rfl ?_
                refine VC.skip ?_
                refine VN.block ?_
                refine VN.then ?_
                refine VC.region ?_
                refine VL.va (op_move rfl (ltn rfl)) rfl ?_
                refine VL.va (op_ari64 rfl rfl rfl (ltn rfl)) rfl ?_
                refine VL.va (op_assign rfl (ltn rfl)) rfl ?_
                refine VL.done ?_
                refine VN.again [0] [] (ihl185 i16161 (wrap64 (i16162 + 1)) h) ⟨rfl, ⟨rfl, rfl, rfl, rfl, trivial⟩, trivial, rfl, by decide, rfl, by decide⟩
            · rw [if_neg c16232] at h; cases h
          · rw [if_neg c16231] at h; cases h
        · rw [if_neg c16230] at h
          obtain rfl : b16229 = false := hb16229.symm.trans (decide_eq_false c16230)
          refine VL.un rfl rfl (ltn rfl) ?_
          refine VL.un rfl rfl (ltn rfl) ?_
          refine VL.un rfl rfl (ltn rfl) ?_
          refine VL.un rfl rfl (ltn rfl) ?_
          refine VL.va (op_pick rfl rfl (ltn rfl)) rfl ?_
          refine VL.done ?_
          refine VN.then ?_
          refine VC.cond_f rfl ?_
          refine VC.skip ?_
          refine VN.block ?_
          refine VN.then ?_
          refine VC.region ?_
          refine VL.va (op_move rfl (ltn rfl)) rfl ?_
          refine VL.va (op_ari64 rfl rfl rfl (ltn rfl)) rfl ?_
          refine VL.va (op_assign rfl (ltn rfl)) rfl ?_
          refine VL.done ?_
          refine VN.again [0] [] (ihl185 i16161 (wrap64 (i16162 + 1)) h) ⟨rfl, ⟨rfl, rfl, rfl, rfl, trivial⟩, trivial, rfl, by decide, rfl, by decide⟩
      · rw [if_neg c16212] at h
        obtain rfl : b16211 = false := hb16211.symm.trans (decide_eq_false c16212)
        refine VC.cond_f rfl ?_
        refine VC.exit ?_
        refine VX.then ?_
        refine VX.then ?_
        refine VX.hit ?_
        refine VN.meet1 i16161 [0] [] h ⟨rfl, ⟨rfl, rfl, rfl, trivial⟩, trivial, rfl, by decide, rfl, by decide⟩
    · rw [if_neg c16210] at h
      obtain rfl : b16209 = false := hb16209.symm.trans (decide_eq_false c16210)
      refine VL.un rfl rfl (ltn rfl) ?_
      refine VL.un rfl rfl (ltn rfl) ?_
      refine VL.va (op_pick rfl rfl (ltn rfl)) rfl ?_
      refine VL.done ?_
      refine VN.then ?_
      refine VC.cond_f rfl ?_
      refine VC.exit ?_
      refine VX.then ?_
      refine VX.then ?_
      refine VX.hit ?_
      refine VN.meet1 i16161 [0] [] h ⟨rfl, ⟨rfl, rfl, rfl, trivial⟩, trivial, rfl, by decide, rfl, by decide⟩
  clear h
  intro i16235 h
  unfold tarryref01_ReadNumber.j184 at h
  refine VC.join0 (⟨79, [(0, .string a0), (2, .pointer (some ⟨g2331, 0, none⟩)), (3, .int .i64 i16235)], [], [(g2331, 28, [.int .i64 0, .string (⟨#[]⟩ : ByteArray), .int .i64 0])], []⟩) (tarryref01_ReadNumber.j208 k a0 i16235 = some (r1, r2, r3)) ?_ ?_
  · refine VC.seq ?_
    refine VC.region ?_
    refine VL.va (op_move rfl (ltn rfl)) rfl ?_
    refine VL.letter (decide (i16235 < 0)) fun b17933 hb17933 => ?_
    refine VL.va (op_cmp rfl rfl (congrArg some hb17933) (ltn rfl)) rfl ?_
    refine VL.va (op_move rfl (ltn rfl)) rfl ?_
    by_cases c17934 : i16235 < 0
    · rw [if_pos c17934] at h
      obtain rfl : b17933 = true := hb17933.symm.trans (decide_eq_true c17934)
      refine VL.va (op_move rfl (ltn rfl)) rfl ?_
      refine VL.va (op_lens Try.underlying9 rfl (ltn rfl)) rfl ?_
      refine VL.letter (decide ((a0.size : Int) ≥ 9)) fun b17935 hb17935 => ?_
      refine VL.va (op_cmp rfl rfl (congrArg some hb17935) (ltn rfl)) rfl ?_
      refine VL.va (op_pick rfl rfl (ltn rfl)) rfl ?_
      refine VL.done ?_
      refine VN.then ?_
      by_cases c17936 : (a0.size : Int) ≥ 9
      · rw [if_pos c17936] at h
        obtain rfl : b17935 = true := hb17935.symm.trans (decide_eq_true c17936)
        refine VC.cond_t rfl ?_
        refine VC.seq ?_
        refine VC.region ?_
        refine VL.va (op_build (vals := [(2, .int .i64 3)]) (vcs := [(2, [.int .i64 3])]) (cells := [.int .i64 0, .string (⟨#[]⟩ : ByteArray), .int .i64 3]) SI28 rfl (.cons ⟨rfl, (.c rfl)⟩ .nil) (by kernel_rfl) (ltn rfl)) rfl ?_
        refine VL.step1 (o_store 0 3 rfl rfl rfl TI28 (.agg (.of rfl)) rfl (len rfl)) rfl ?_
        refine VL.done ?_
        refine VN.then ?_
        refine VC.ret ?_
        refine VR.then ?_
        simp only [Option.some.injEq, Prod.mk.injEq] at h
        obtain ⟨rfl, rfl, rfl⟩ := h
        exact VR.fn (rs := [.cell 2 28]) [] [] [] rfl (.cell 0 rfl rfl TI28 (fun h => absurd h (by decide)) .nil) ⟨rfl, rfl, rfl⟩ trivial rfl (by decide)
      · rw [if_neg c17936] at h
        obtain rfl : b17935 = false := hb17935.symm.trans (decide_eq_false c17936)
        refine VC.cond_f rfl ?_
        refine VC.skip ?_
        refine VN.meet0  [0] [] h ⟨rfl, ⟨rfl, rfl, rfl, trivial⟩, trivial, rfl, by decide, rfl, by decide⟩
    · rw [if_neg c17934] at h
      obtain rfl : b17933 = false := hb17933.symm.trans (decide_eq_false c17934)
      refine VL.un rfl rfl (ltn rfl) ?_
      refine VL.un rfl rfl (ltn rfl) ?_
      refine VL.un rfl rfl (ltn rfl) ?_
      refine VL.va (op_pick rfl rfl (ltn rfl)) rfl ?_
      refine VL.done ?_
      refine VN.then ?_
      refine VC.cond_f rfl ?_
      refine VC.skip ?_
      refine VN.meet0  [0] [] h ⟨rfl, ⟨rfl, rfl, rfl, trivial⟩, trivial, rfl, by decide, rfl, by decide⟩
  clear h
  intro  h
  unfold tarryref01_ReadNumber.j208 at h
  refine VC.seq ?_
  refine VC.seq ?_
  refine VC.region ?_
  refine VL.va (op_move rfl (ltn rfl)) rfl ?_
  refine VL.letter (decide (i16235 < 0)) fun b17939 hb17939 => ?_
  refine VL.va (op_cmp rfl rfl (congrArg some hb17939) (ltn rfl)) rfl ?_
  refine VL.done ?_
  refine VN.then ?_
  by_cases c17940 : i16235 < 0
  · rw [if_pos c17940] at h
    obtain rfl : b17939 = true := hb17939.symm.trans (decide_eq_true c17940)
    refine VC.cond_t rfl ?_
    refine VC.seq ?_
    refine VC.region ?_
    refine VL.va (op_build (vals := [(2, .int .i64 4)]) (vcs := [(2, [.int .i64 4])]) (cells := [.int .i64 0, .string (⟨#[]⟩ : ByteArray), .int .i64 4]) SI28 rfl (.cons ⟨rfl, (.c rfl)⟩ .nil) (by kernel_rfl) (ltn rfl)) rfl ?_
    refine VL.step1 (o_store 0 3 rfl rfl rfl TI28 (.agg (.of rfl)) rfl (len rfl)) rfl ?_
    refine VL.done ?_
    refine VN.then ?_
    refine VC.ret ?_
    refine VR.then ?_
    simp only [Option.some.injEq, Prod.mk.injEq] at h
    obtain ⟨rfl, rfl, rfl⟩ := h
    exact VR.fn (rs := [.cell 2 28]) [] [] [] rfl (.cell 0 rfl rfl TI28 (fun h => absurd h (by decide)) .nil) ⟨rfl, rfl, rfl⟩ trivial rfl (by decide)
  · rw [if_neg c17940] at h
    obtain rfl : b17939 = false := hb17939.symm.trans (decide_eq_false c17940)
    refine VC.cond_f rfl ?_
    refine VC.skip ?_
    refine VN.then ?_
    refine VC.seq ?_
    refine VC.region ?_
    refine VL.va (op_assign rfl (ltn rfl)) rfl ?_
    refine VL.done ?_
    refine VN.then ?_
    refine VC.join1 (fun (i18330 : Int) => ⟨79, [(0, .string a0), (2, .pointer (some ⟨g2331, 0, none⟩)), (3, .int .i64 i16235), (5, .int .i64 i18330)], [], [(g2331, 28, [.int .i64 0, .string (⟨#[]⟩ : ByteArray), .int .i64 0])], []⟩) (fun (i18330 : Int) => tarryref01_ReadNumber.j213 k a0 i16235 i18330 = some (r1, r2, r3)) ?_ ?_
    · refine VC.seq ?_
      refine VC.region ?_
      refine VL.va (op_move rfl (ltn rfl)) rfl ?_
      refine VL.va (op_assign rfl (ltn rfl)) rfl ?_
      refine VL.done ?_
      refine VN.then ?_
      refine VC.block ?_
      refine VC.loop2 (fun (i18316 : Int) (i18317 : Int) => ⟨79, [(0, .string a0), (2, .pointer (some ⟨g2331, 0, none⟩)), (3, .int .i64 i16235), (5, .int .i64 i18316), (6, .int .i64 i18317)], [], [(g2331, 28, [.int .i64 0, .string (⟨#[]⟩ : ByteArray), .int .i64 0])], []⟩) (fun (ml214 : Nat) (i18316 : Int) (i18317 : Int) => tarryref01_ReadNumber.l214 k a0 i16235 ml214 i18316 i18317 = some (r1, r2, r3)) k 0 i16235 [0] [] h ⟨rfl, ⟨rfl, rfl, rfl, rfl, rfl, trivial⟩, trivial, rfl, by decide, rfl, by decide⟩ (by intros; simp [tarryref01_ReadNumber.l214]) ?_
      clear h
      intro ml214 ihl214 i18316 i18317 h
      simp only [tarryref01_ReadNumber.l214] at h
      refine VC.seq ?_
      refine VC.seq ?_
      refine VC.region ?_
      refine VL.va (op_move rfl (ltn rfl)) rfl ?_
      refine VL.letter (decide (i18317 ≥ 0)) fun b18326 hb18326 => ?_
      refine VL.va (op_cmp rfl rfl (congrArg some hb18326) (ltn rfl)) rfl ?_
      refine VL.done ?_
      refine VN.then ?_
      by_cases c18327 : i18317 ≥ 0
      · rw [if_pos c18327] at h
        obtain rfl : b18326 = true := hb18326.symm.trans (decide_eq_true c18327)
        refine VC.cond_t rfl ?_
        refine VC.skip ?_
        refine VN.then ?_
        refine VC.seq ?_
        refine VC.block ?_
        refine VC.region ?_
        refine VL.va (op_move rfl (ltn rfl)) rfl ?_
        refine VL.va (op_ari64 rfl rfl rfl (ltn rfl)) rfl ?_
        refine VL.va (op_move rfl (ltn rfl)) rfl ?_
        refine VL.va (op_move rfl (ltn rfl)) rfl ?_
        by_cases c18328 : 0 ≤ i18317
        · rw [if_pos c18328] at h
          by_cases c18329 : i18317 < (a0.size : Int)
          · rw [if_pos c18329] at h
            refine VL.va (op_indexS Try.underlying9 rfl rfl c18328 c18329 rfl (ltn rfl)) rfl ?_
            refine VL.va (op_rem rfl rfl (by decide) rfl (ltn rfl)) rfl ?_
            refine VL.va (op_conv Try.underlying5 Try.underlying3 rfl (i64w _) (ltn rfl)) rfl ?_
            refine VL.va (op_ari64 rfl rfl rfl (ltn rfl)) rfl ?_
            refine VL.va (op_assign rfl (ltn rfl)) rfl ?_
            refine VL.done ?_
            refine VN.block ?_
            refine VN.then ?_
            refine VC.region ?_
            refine VL.va (op_move rfl (ltn rfl)) rfl ?_
            refine VL.va (op_ari64 rfl rfl rfl (ltn rfl)) rfl ?_
            refine VL.va (op_assign rfl (ltn rfl)) rfl ?_
            refine VL.done ?_
            refine VN.again [0] [] (ihl214 (wrap64 ((wrap64 (128 * i18316)) + (wrap64 ((bt a0 i18317).tmod 128)))) (wrap64 (i18317 - 1)) h) ⟨rfl, ⟨rfl, rfl, rfl, rfl, rfl, trivial⟩, trivial, rfl, by decide, rfl, by decide⟩
          · rw [if_neg c18329] at h; cases h
        · rw [if_neg c18328] at h; cases h
      · rw [if_neg c18327] at h
        obtain rfl : b18326 = false := hb18326.symm.trans (decide_eq_false c18327)
        refine VC.cond_f rfl ?_
        refine VC.exit ?_
        refine VX.then ?_
        refine VX.then ?_
        refine VX.hit ?_
        refine VN.meet1 i18316 [0] [] h ⟨rfl, ⟨rfl, rfl, rfl, rfl, trivial⟩, trivial, rfl, by decide, rfl, by decide⟩
    clear h
    intro i18330 h
    unfold tarryref01_ReadNumber.j213 at h
    refine VC.seq ?_
    refine VC.region ?_
    refine VL.va (op_move rfl (ltn rfl)) rfl ?_
    refine VL.va (op_quo rfl rfl (by decide) rfl (ltn rfl)) rfl ?_
    refine VL.va (op_assign rfl (ltn rfl)) rfl ?_
    refine VL.done ?_
    refine VN.then ?_
    refine VC.join1 (fun (i18442 : Int) => ⟨79, [(0, .string a0), (2, .pointer (some ⟨g2331, 0, none⟩)), (3, .int .i64 i16235), (7, .int .i64 i18442)], [], [(g2331, 28, [.int .i64 0, .string (⟨#[]⟩ : ByteArray), .int .i64 0])], []⟩) (fun (i18442 : Int) => tarryref01_ReadNumber.j215 k a0 i16235 i18442 = some (r1, r2, r3)) ?_ ?_
    · refine VC.seq ?_
      refine VC.region ?_
      refine VL.va (op_move rfl (ltn rfl)) rfl ?_
      refine VL.va (op_rem rfl rfl (by decide) rfl (ltn rfl)) rfl ?_
      refine VL.letter (((i18330.tmod 2) == 1)) fun b18440 hb18440 => ?_
      refine VL.va (op_cmp rfl rfl (congrArg some hb18440) (ltn rfl)) rfl ?_
      refine VL.done ?_
      refine VN.then ?_
      by_cases c18441 : (i18330.tmod 2) = 1
      · rw [if_pos c18441] at h
        obtain rfl : b18440 = true := hb18440.symm.trans (beq_iff_eq.2 c18441)
        refine VC.cond_t rfl ?_
        refine VC.region ?_
        refine VL.va (op_move rfl (ltn rfl)) rfl ?_
        refine VL.va (op_ari64 rfl rfl rfl (ltn rfl)) rfl ?_
        refine VL.va (op_ari64 rfl rfl rfl (ltn rfl)) rfl ?_
        refine VL.va (op_assign rfl (ltn rfl)) rfl ?_
        refine VL.done ?_
        refine VN.meet1 (wrap64 ((wrap64 (0 - (IntKind.i64.wrap (i18330.tdiv 2)))) - 1)) [0] [] h ⟨rfl, ⟨rfl, rfl, rfl, rfl, trivial⟩, trivial, rfl, by decide, rfl, by decide⟩
      · rw [if_neg c18441] at h
        obtain rfl : b18440 = false := hb18440.symm.trans (beq_eq_false_iff_ne.2 c18441)
        refine VC.cond_f rfl ?_
        refine VC.skip ?_
        refine VN.meet1 (IntKind.i64.wrap (i18330.tdiv 2)) [0] [] h ⟨rfl, ⟨rfl, rfl, rfl, rfl, trivial⟩, trivial, rfl, by decide, rfl, by decide⟩
    clear h
    intro i18442 h
    unfold tarryref01_ReadNumber.j215 at h
    refine VC.seq ?_
    refine VC.seq ?_
    refine VC.region ?_
    refine VL.va (op_move rfl (ltn rfl)) rfl ?_
    refine VL.va (op_move rfl (ltn rfl)) rfl ?_
    by_cases c18479 : 0 ≤ i16235
    · rw [if_pos c18479] at h
      by_cases c18480 : i16235 < (a0.size : Int)
      · rw [if_pos c18480] at h
        refine VL.va (op_indexS Try.underlying9 rfl rfl c18479 c18480 rfl (ltn rfl)) rfl ?_
        refine VL.letter (((bt a0 i16235) == 0)) fun b18481 hb18481 => ?_
        refine VL.va (op_cmp rfl rfl (congrArg some hb18481) (ltn rfl)) rfl ?_
        refine VL.va (op_move rfl (ltn rfl)) rfl ?_
        by_cases c18482 : (bt a0 i16235) = 0
        · rw [if_pos c18482] at h
          obtain rfl : b18481 = true := hb18481.symm.trans (beq_iff_eq.2 c18482)
          refine VL.va (op_move rfl (ltn rfl)) rfl ?_
          refine VL.letter (decide (i16235 > 0)) fun b18483 hb18483 => ?_
          refine VL.va (op_cmp rfl rfl (congrArg some hb18483) (ltn rfl)) rfl ?_
          refine VL.va (op_pick rfl rfl (ltn rfl)) rfl ?_
          refine VL.va (op_move rfl (ltn rfl)) rfl ?_
          by_cases c18484 : i16235 > 0
          · rw [if_pos c18484] at h
            obtain rfl : b18483 = true := hb18483.symm.trans (decide_eq_true c18484)
            refine VL.un rfl rfl (ltn rfl) ?_
            refine VL.un rfl rfl (ltn rfl) ?_
            refine VL.un rfl rfl (ltn rfl) ?_
            refine VL.va (op_pick rfl rfl (ltn rfl)) rfl ?_
            refine VL.done ?_
            refine VN.then ?_
            refine VC.cond_t rfl ?_
            refine VC.seq ?_
            refine VC.region ?_
            refine VL.va (op_build (vals := [(2, .int .i64 5)]) (vcs := [(2, [.int .i64 5])]) (cells := [.int .i64 0, .string (⟨#[]⟩ : ByteArray), .int .i64 5]) SI28 rfl (.cons ⟨rfl, (.c rfl)⟩ .nil) (by kernel_rfl) (ltn rfl)) rfl ?_
            refine VL.step1 (o_store 0 3 rfl rfl rfl TI28 (.agg (.of rfl)) rfl (len rfl)) rfl ?_
            refine VL.done ?_
            refine VN.then ?_
            refine VC.ret ?_
            refine VR.then ?_
            simp only [Option.some.injEq, Prod.mk.injEq] at h
            obtain ⟨rfl, rfl, rfl⟩ := h
            exact VR.fn (rs := [.cell 2 28]) [] [] [] rfl (.cell 0 rfl rfl TI28 (fun h => absurd h (by decide)) .nil) ⟨rfl, rfl, rfl⟩ trivial rfl (by decide)
          · rw [if_neg c18484] at h
            obtain rfl : b18483 = false := hb18483.symm.trans (decide_eq_false c18484)
            refine VL.va (op_move rfl (ltn rfl)) rfl ?_
            replace h := Option.bind_eq_some_iff.1 h
            obtain ⟨t18485, hA18486, h⟩ := h
            refine VL.sC (o_call0 FO12 (tarryref01_May.ok i18442 t18485 hA18486) rfl rfl (ltn rfl) (All_of .nil)) rfl ?_
            rintro _ _ _ ⟨rfl, rfl, rfl⟩
            by_cases c18487 : t18485 = true
            · rw [if_pos c18487] at h
              obtain rfl := c18487
              refine VL.va (op_not rfl rfl (ltn rfl)) rfl ?_
              refine VL.va (op_pick rfl rfl (ltn rfl)) rfl ?_
              refine VL.done ?_
              refine VN.then ?_
              refine VC.cond_f rfl ?_
              refine VC.skip ?_
              refine VN.then ?_
              refine VC.seq ?_
              refine VC.region ?_
              refine VL.va (op_move rfl (ltn rfl)) rfl ?_
              refine VL.va (op_move rfl (ltn rfl)) rfl ?_
              refine VL.va (op_move rfl (ltn rfl)) rfl ?_
              refine VL.va (op_ari64 rfl rfl rfl (ltn rfl)) rfl ?_
              by_cases c18488 : 0 ≤ wrap64 (i16235 + 1)
              · rw [if_pos c18488] at h
                by_cases c18489 : (wrap64 (i16235 + 1)) ≤ (a0.size : Int)
                · rw [if_pos c18489] at h
                  refine VL.va (op_sliceS ((wrap64 (i16235 + 1)).toNat) a0.size Try.underlying9 rfl ⟨⟨_, _, rfl, c18488, rfl⟩, rfl, by omega, by omega⟩ rfl (ltn rfl)) rfl ?_
                  refine VL.va (op_build (vals := [(0, .int .i64 i18442), (1, .string (a0.extract ((wrap64 (i16235 + 1)).toNat) a0.size))]) (vcs := [(0, [.int .i64 i18442]), (1, [.string (a0.extract ((wrap64 (i16235 + 1)).toNat) a0.size)])]) (cells := [.int .i64 i18442, .string (a0.extract ((wrap64 (i16235 + 1)).toNat) a0.size), .int .i64 0]) SI28 rfl (.cons ⟨rfl, (.c rfl)⟩ (.cons ⟨rfl, (.c rfl)⟩ .nil)) (by kernel_rfl) (ltn rfl)) rfl ?_
                  refine VL.step1 (o_store 0 3 rfl rfl rfl TI28 (.agg (.of rfl)) rfl (len rfl)) rfl ?_
                  refine VL.done ?_
                  refine VN.then ?_
                  refine VC.ret ?_
                  simp only [Option.some.injEq, Prod.mk.injEq] at h
                  obtain ⟨rfl, rfl, rfl⟩ := h
                  exact VR.fn (rs := [.cell 2 28]) [] [] [] rfl (.cell 0 rfl rfl TI28 (fun h => absurd h (by decide)) .nil) ⟨rfl, rfl, rfl⟩ trivial rfl (by decide)
                · rw [if_neg c18489] at h; cases h
              · rw [if_neg c18488] at h; cases h
            · rw [if_neg c18487] at h
              obtain rfl := Bool.eq_false_iff.2 c18487
              refine VL.va (op_not rfl rfl (ltn rfl)) rfl ?_
              refine VL.va (op_pick rfl rfl (ltn rfl)) rfl ?_
              refine VL.done ?_
              refine VN.then ?_
              refine VC.cond_t rfl ?_
              refine VC.seq ?_
              refine VC.region ?_
              refine VL.va (op_build (vals := [(2, .int .i64 5)]) (vcs := [(2, [.int .i64 5])]) (cells := [.int .i64 0, .string (⟨#[]⟩ : ByteArray), .int .i64 5]) SI28 rfl (.cons ⟨rfl, (.c rfl)⟩ .nil) (by kernel_rfl) (ltn rfl)) rfl ?_
              refine VL.step1 (o_store 0 3 rfl rfl rfl TI28 (.agg (.of rfl)) rfl (len rfl)) rfl ?_
              refine VL.done ?_
              refine VN.then ?_
              refine VC.ret ?_
              refine VR.then ?_
              simp only [Option.some.injEq, Prod.mk.injEq] at h
              obtain ⟨rfl, rfl, rfl⟩ := h
              exact VR.fn (rs := [.cell 2 28]) [] [] [] rfl (.cell 0 rfl rfl TI28 (fun h => absurd h (by decide)) .nil) ⟨rfl, rfl, rfl⟩ trivial rfl (by decide)
        · rw [if_neg c18482] at h
          obtain rfl : b18481 = false := hb18481.symm.trans (beq_eq_false_iff_ne.2 c18482)
          refine VL.un rfl rfl (ltn rfl) ?_
          refine VL.un rfl rfl (ltn rfl) ?_
          refine VL.va (op_pick rfl rfl (ltn rfl)) rfl ?_
          refine VL.va (op_move rfl (ltn rfl)) rfl ?_
          refine VL.va (op_move rfl (ltn rfl)) rfl ?_
          replace h := Option.bind_eq_some_iff.1 h
          obtain ⟨t18490, hA18491, h⟩ := h
          refine VL.sC (o_call0 FO12 (tarryref01_May.ok i18442 t18490 hA18491) rfl rfl (ltn rfl) (All_of .nil)) rfl ?_
          rintro _ _ _ ⟨rfl, rfl, rfl⟩
          by_cases c18492 : t18490 = true
          · rw [if_pos c18492] at h
            obtain rfl := c18492
            refine VL.va (op_not rfl rfl (ltn rfl)) rfl ?_
            refine VL.va (op_pick rfl rfl (ltn rfl)) rfl ?_
            refine VL.done ?_
            refine VN.then ?_
            refine VC.cond_f rfl ?_
            refine VC.skip ?_
            refine VN.then ?_
            refine VC.seq ?_
            refine VC.region ?_
            refine VL.va (op_move rfl (ltn rfl)) rfl ?_
            refine VL.va (op_move rfl (ltn rfl)) rfl ?_
            refine VL.va (op_move rfl (ltn rfl)) rfl ?_
            refine VL.va (op_ari64 rfl rfl rfl (ltn rfl)) rfl ?_
            by_cases c18493 : 0 ≤ wrap64 (i16235 + 1)
            · rw [if_pos c18493] at h
              by_cases c18494 : (wrap64 (i16235 + 1)) ≤ (a0.size : Int)
              · rw [if_pos c18494] at h
                refine VL.va (op_sliceS ((wrap64 (i16235 + 1)).toNat) a0.size Try.underlying9 rfl ⟨⟨_, _, rfl, c18493, rfl⟩, rfl, by omega, by omega⟩ rfl (ltn rfl)) rfl ?_
                refine VL.va (op_build (vals := [(0, .int .i64 i18442), (1, .string (a0.extract ((wrap64 (i16235 + 1)).toNat) a0.size))]) (vcs := [(0, [.int .i64 i18442]), (1, [.string (a0.extract ((wrap64 (i16235 + 1)).toNat) a0.size)])]) (cells := [.int .i64 i18442, .string (a0.extract ((wrap64 (i16235 + 1)).toNat) a0.size), .int .i64 0]) SI28 rfl (.cons ⟨rfl, (.c rfl)⟩ (.cons ⟨rfl, (.c rfl)⟩ .nil)) (by kernel_rfl) (ltn rfl)) rfl ?_
                refine VL.step1 (o_store 0 3 rfl rfl rfl TI28 (.agg (.of rfl)) rfl (len rfl)) rfl ?_
                refine VL.done ?_
                refine VN.then ?_
                refine VC.ret ?_
                simp only [Option.some.injEq, Prod.mk.injEq] at h
                obtain ⟨rfl, rfl, rfl⟩ := h
                exact VR.fn (rs := [.cell 2 28]) [] [] [] rfl (.cell 0 rfl rfl TI28 (fun h => absurd h (by decide)) .nil) ⟨rfl, rfl, rfl⟩ trivial rfl (by decide)
              · rw [if_neg c18494] at h; cases h
            · rw [if_neg c18493] at h; cases h
          · rw [if_neg c18492] at h
            obtain rfl := Bool.eq_false_iff.2 c18492
            refine VL.va (op_not rfl rfl (ltn rfl)) rfl ?_
            refine VL.va (op_pick rfl rfl (ltn rfl)) rfl ?_
            refine VL.done ?_
            refine VN.then ?_
            refine VC.cond_t rfl ?_
            refine VC.seq ?_
            refine VC.region ?_
            refine VL.va (op_build (vals := [(2, .int .i64 5)]) (vcs := [(2, [.int .i64 5])]) (cells := [.int .i64 0, .string (⟨#[]⟩ : ByteArray), .int .i64 5]) SI28 rfl (.cons ⟨rfl, (.c rfl)⟩ .nil) (by kernel_rfl) (ltn rfl)) rfl ?_
            refine VL.step1 (o_store 0 3 rfl rfl rfl TI28 (.agg (.of rfl)) rfl (len rfl)) rfl ?_
            refine VL.done ?_
            refine VN.then ?_
            refine VC.ret ?_
            refine VR.then ?_
            simp only [Option.some.injEq, Prod.mk.injEq] at h
            obtain ⟨rfl, rfl, rfl⟩ := h
            exact VR.fn (rs := [.cell 2 28]) [] [] [] rfl (.cell 0 rfl rfl TI28 (fun h => absurd h (by decide)) .nil) ⟨rfl, rfl, rfl⟩ trivial rfl (by decide)
      · rw [if_neg c18480] at h; cases h
    · rw [if_neg c18479] at h; cases h
set_option maxHeartbeats 4000000 in
set_option maxRecDepth 100000 in
theorem tarryref01_count.ok (k : Nat) (a0 : ByteArray) (a1 : Int)  (r1 : Int) (r2 : ByteArray) (r3 : Int) (h : tarryref01_count.f k a0 a1 = some (r1, r2, r3)) :
    VCalls Try.prog 31 [.string a0, .int .i64 a1] [] (fun v G own => v = .agg #[.int .i64 r1, .string r2, .int .i64 r3] ∧ G = [] ∧ own = []) := by
  refine VCalls.intro Try.func31 rfl (len rfl) fun E hC hW hD hU => ?_
  unfold tarryref01_count.f at h
  refine VC.seq ?_
  refine VC.region ?_
  refine VL.sG (o_alloc Z28 ZL28 (ltn rfl)) rfl ?_
  intro g2330
  refine VL.done ?_
  refine VN.then ?_
  refine VC.seq ?_
  refine VC.region ?_
  refine VL.va (op_move rfl (ltn rfl)) rfl ?_
  replace h := Option.bind_eq_some_iff.1 h
  obtain ⟨⟨t18495, t18496, t18497⟩, hA18498, h⟩ := h
  dsimp only at h
  refine VL.sC (o_call0 FO10 (tarryref01_ReadNumber.ok k a0 t18495 t18496 t18497 hA18498) rfl rfl (ltn rfl) (All_of .nil)) rfl ?_
  rintro _ _ _ ⟨rfl, rfl, rfl⟩
  refine VL.sG (o_alloc Z28 ZL28 (ltn rfl)) rfl ?_
  intro g18499
  refine VL.step1 (o_store 0 3 rfl rfl rfl TI28 (.agg (.of rfl)) rfl (len rfl)) rfl ?_
  refine VL.done ?_
  refine VN.then ?_
  refine VC.seq ?_
  refine VC.seq ?_
  refine VC.region ?_
  refine VL.va (op_fieldAddr FI28_2 rfl (add_at _ _ _) (ltn rfl)) rfl ?_
  refine VL.va (op_load 0 1 rfl rfl TI22 rfl (by decide) (ltn rfl)) rfl ?_
  refine VL.letter ((t18497 != 0)) fun b18502 hb18502 => ?_
  refine VL.va (op_cmp rfl rfl (congrArg some hb18502) (ltn rfl)) rfl ?_
  refine VL.done ?_
  refine VN.then ?_
  by_cases c18503 : t18497 = 0
  · rw [if_pos c18503] at h
    obtain rfl : b18502 = false := hb18502.symm.trans (bne_eq_false_iff_eq.2 c18503)
    refine VC.cond_f rfl ?_
    refine VC.skip ?_
    refine VN.then ?_
    refine VC.seq ?_
    refine VC.seq ?_
    refine VC.region ?_
    refine VL.va (op_fieldAddr FI28_0 rfl (add_at _ _ _) (ltn rfl)) rfl ?_
    refine VL.va (op_load 0 1 rfl rfl TI3 rfl (by decide) (ltn rfl)) rfl ?_
    refine VL.va (op_move rfl (ltn rfl)) rfl ?_
    refine VL.letter (decide (t18495 > a1)) fun b18506 hb18506 => ?_
    refine VL.va (op_cmp rfl rfl (congrArg some hb18506) (ltn rfl)) rfl ?_
    refine VL.done ?_
    refine VN.then ?_
    by_cases c18507 : t18495 > a1
    · rw [if_pos c18507] at h
      obtain rfl : b18506 = true := hb18506.symm.trans (decide_eq_true c18507)
      refine VC.cond_t rfl ?_
      refine VC.seq ?_
      refine VC.region ?_
      refine VL.va (op_build (vals := [(2, .int .i64 3)]) (vcs := [(2, [.int .i64 3])]) (cells := [.int .i64 0, .string (⟨#[]⟩ : ByteArray), .int .i64 3]) SI28 rfl (.cons ⟨rfl, (.c rfl)⟩ .nil) (by kernel_rfl) (ltn rfl)) rfl ?_
      refine VL.step1 (o_store 1 3 rfl rfl rfl TI28 (.agg (.of rfl)) rfl (len rfl)) rfl ?_
      refine VL.done ?_
      refine VN.then ?_
      refine VC.ret ?_
      refine VR.then ?_
      simp only [Option.some.injEq, Prod.mk.injEq] at h
      obtain ⟨rfl, rfl, rfl⟩ := h
      exact VR.fn (rs := [.cell 4 28]) [] [] [] rfl (.cell 1 rfl rfl TI28 (fun h => absurd h (by decide)) .nil) ⟨rfl, rfl, rfl⟩ trivial rfl (by decide)
    · rw [if_neg c18507] at h
      obtain rfl : b18506 = false := hb18506.symm.trans (decide_eq_false c18507)
      refine VC.cond_f rfl ?_
      refine VC.skip ?_
      refine VN.then ?_
      refine VC.seq ?_
      refine VC.seq ?_
      refine VC.region ?_
      refine VL.va (op_fieldAddr FI28_0 rfl (add_at _ _ _) (ltn rfl)) rfl ?_
      refine VL.va (op_load 0 1 rfl rfl TI3 rfl (by decide) (ltn rfl)) rfl ?_
      refine VL.letter (decide (t18495 < 0)) fun b18510 hb18510 => ?_
      refine VL.va (op_cmp rfl rfl (congrArg some hb18510) (ltn rfl)) rfl ?_
      refine VL.done ?_
      refine VN.then ?_
      by_cases c18511 : t18495 < 0
      · rw [if_pos c18511] at h
        obtain rfl : b18510 = true := hb18510.symm.trans (decide_eq_true c18511)
        refine VC.cond_t rfl ?_
        refine VC.seq ?_
        refine VC.region ?_
        refine VL.va (op_build (vals := [(2, .int .i64 5)]) (vcs := [(2, [.int .i64 5])]) (cells := [.int .i64 0, .string (⟨#[]⟩ : ByteArray), .int .i64 5]) SI28 rfl (.cons ⟨rfl, (.c rfl)⟩ .nil) (by kernel_rfl) (ltn rfl)) rfl ?_
        refine VL.step1 (o_store 1 3 rfl rfl rfl TI28 (.agg (.of rfl)) rfl (len rfl)) rfl ?_
        refine VL.done ?_
        refine VN.then ?_
        refine VC.ret ?_
        refine VR.then ?_
        simp only [Option.some.injEq, Prod.mk.injEq] at h
        obtain ⟨rfl, rfl, rfl⟩ := h
        exact VR.fn (rs := [.cell 4 28]) [] [] [] rfl (.cell 1 rfl rfl TI28 (fun h => absurd h (by decide)) .nil) ⟨rfl, rfl, rfl⟩ trivial rfl (by decide)
      · rw [if_neg c18511] at h
        obtain rfl : b18510 = false := hb18510.symm.trans (decide_eq_false c18511)
        refine VC.cond_f rfl ?_
        refine VC.skip ?_
        refine VN.then ?_
        refine VC.seq ?_
        refine VC.region ?_
        refine VL.va (op_load 0 3 rfl rfl TI28 rfl (fun h => absurd h (by decide)) (ltn rfl)) rfl ?_
        refine VL.step1 (o_store 1 3 rfl rfl rfl TI28 (.agg (.of rfl)) rfl (len rfl)) rfl ?_
        refine VL.done ?_
        refine VN.then ?_
        refine VC.ret ?_
        simp only [Option.some.injEq, Prod.mk.injEq] at h
        obtain ⟨rfl, rfl, rfl⟩ := h
        exact VR.fn (rs := [.cell 4 28]) [] [] [] rfl (.cell 1 rfl rfl TI28 (fun h => absurd h (by decide)) .nil) ⟨rfl, rfl, rfl⟩ trivial rfl (by decide)
  · rw [if_neg c18503] at h
    obtain rfl : b18502 = true := hb18502.symm.trans (bne_iff_ne.2 c18503)
    refine VC.cond_t rfl ?_
    refine VC.seq ?_
    refine VC.region ?_
    refine VL.va (op_load 0 3 rfl rfl TI28 rfl (fun h => absurd h (by decide)) (ltn rfl)) rfl ?_
    refine VL.step1 (o_store 1 3 rfl rfl rfl TI28 (.agg (.of rfl)) rfl (len rfl)) rfl ?_
    refine VL.done ?_
    refine VN.then ?_
    refine VC.ret ?_
    refine VR.then ?_
    simp only [Option.some.injEq, Prod.mk.injEq] at h
    obtain ⟨rfl, rfl, rfl⟩ := h
    exact VR.fn (rs := [.cell 4 28]) [] [] [] rfl (.cell 1 rfl rfl TI28 (fun h => absurd h (by decide)) .nil) ⟨rfl, rfl, rfl⟩ trivial rfl (by decide)
set_option maxHeartbeats 4000000 in
set_option maxRecDepth 100000 in
theorem tarryref01_ReadRow.ok (k : Nat) (a0 : ByteArray)  (r1 : List ByteArray) (r2 : Int) (h : tarryref01_ReadRow.f k a0 = some (r1, r2)) :
    VCalls Try.prog 20 [.string a0] [] (fun v G own => ∃ w0 : Value, v = .tuple #[w0, .int .i64 r2] ∧ G = [] ∧ own = [(w0, 9, 1, r1.map enc_str)]) := by
  refine VCalls.intro Try.func20 rfl (len rfl) fun E hC hW hD hU => ?_
  unfold tarryref01_ReadRow.f at h
  refine VC.seq ?_
  refine VC.region ?_
  refine VL.va (op_assign rfl (ltn rfl)) rfl ?_
  refine VL.va (op_assign rfl (ltn rfl)) rfl ?_
  refine VL.done ?_
  refine VN.then ?_
  refine VC.seq ?_
  refine VC.region ?_
  refine VL.va (op_move rfl (ltn rfl)) rfl ?_
  replace h := Option.bind_eq_some_iff.1 h
  obtain ⟨⟨t18512, t18513, t18514⟩, hA18515, h⟩ := h
  dsimp only at h
  refine VL.sC (o_call0 FO31 (tarryref01_count.ok k a0 256 t18512 t18513 t18514 hA18515) rfl rfl (ltn rfl) (All_of .nil)) rfl ?_
  rintro _ _ _ ⟨rfl, rfl, rfl⟩
  refine VL.sG (o_alloc Z28 ZL28 (ltn rfl)) rfl ?_
  intro g18516
  refine VL.step1 (o_store 0 3 rfl rfl rfl TI28 (.agg (.of rfl)) rfl (len rfl)) rfl ?_
  refine VL.done ?_
  refine VN.then ?_
  refine VC.seq ?_
  refine VC.seq ?_
  refine VC.region ?_
  refine VL.va (op_fieldAddr FI28_2 rfl (add_at _ _ _) (ltn rfl)) rfl ?_
  refine VL.va (op_load 0 1 rfl rfl TI22 rfl (by decide) (ltn rfl)) rfl ?_
  refine VL.letter ((t18514 != 0)) fun b18520 hb18520 => ?_
  refine VL.va (op_cmp rfl rfl (congrArg some hb18520) (ltn rfl)) rfl ?_
  refine VL.done ?_
  refine VN.then ?_
  by_cases c18521 : t18514 = 0
  · rw [if_pos c18521] at h
    obtain rfl : b18520 = false := hb18520.symm.trans (bne_eq_false_iff_eq.2 c18521)
    refine VC.cond_f rfl ?_
    refine VC.skip ?_
    refine VN.then ?_
    refine VC.seq ?_
    refine VC.region ?_
    refine VL.va (op_fieldAddr FI28_0 rfl (add_at _ _ _) (ltn rfl)) rfl ?_
    refine VL.va (op_load 0 1 rfl rfl TI3 rfl (by decide) (ltn rfl)) rfl ?_
    refine VL.va (op_assign rfl (ltn rfl)) rfl ?_
    refine VL.done ?_
    refine VN.then ?_
    refine VC.seq ?_
    refine VC.region ?_
    refine VL.va (op_fieldAddr FI28_1 rfl (add_at _ _ _) (ltn rfl)) rfl ?_
    refine VL.va (op_load 0 1 rfl rfl TI9 rfl (by decide) (ltn rfl)) rfl ?_
    refine VL.va (op_assign rfl (ltn rfl)) rfl ?_
    refine VL.done ?_
    refine VN.then ?_
    refine VC.seq ?_
    refine VC.region ?_
    refine VL.sG (o_buildSlice (vals := []) (cells := #[]) (es := List.map enc_str ([] : List ByteArray)) Try.underlying39 TI9 Z9 rfl (by decide) (by decide) (by kernel_rfl) (by kernel_rfl) rfl (flat_map enc_str_ok _) (ltn rfl)) rfl ?_
    intro v18523
    refine VL.va (op_assign rfl (ltn rfl)) rfl ?_
    refine VL.done ?_
    refine VN.then ?_
    refine VC.seq ?_
    refine VC.seq ?_
    refine VC.region ?_
    refine VL.va (op_assign rfl (ltn rfl)) rfl ?_
    refine VL.done ?_
    refine VN.then ?_
    refine VC.block ?_
    refine VC.loop7 (fun (s18708 : ByteArray) (v18710 : Value) (l18711 : List ByteArray) (i18712 : Int) (i18713 : Int) (s18714 : ByteArray) (i18715 : Int) => ⟨55, [(0, .string s18708), (2, .slice none 0 0), (3, .int .i64 0), (4, .pointer (some ⟨g18516, 0, none⟩)), (5, .int .i64 t18512), (6, v18710), (7, .int .i64 i18712)], [], [(g18516, 28, [.int .i64 i18713, .string s18714, .int .i64 i18715])], [(v18710, 9, 1, l18711.map enc_str)]⟩) (fun (ml1 : Nat) (s18708 : ByteArray) (v18710 : Value) (l18711 : List ByteArray) (i18712 : Int) (i18713 : Int) (s18714 : ByteArray) (i18715 : Int) => tarryref01_ReadRow.l1 k t18512 ml1 s18708 l18711 i18712 i18713 s18714 i18715 = some (r1, r2)) k t18513 v18523 ([] : List ByteArray) 0 t18512 t18513 t18514 [0] [0] h ⟨rfl, ⟨rfl, rfl, rfl, rfl, rfl, rfl, rfl, trivial⟩, trivial, rfl, by decide, rfl, by decide⟩ (by intros; simp [tarryref01_ReadRow.l1]) ?_
    clear h
    intro ml1 ihl1 s18708 v18710 l18711 i18712 i18713 s18714 i18715 h
    simp only [tarryref01_ReadRow.l1] at h
    refine VC.seq ?_
    refine VC.seq ?_
    refine VC.region ?_
    refine VL.va (op_move rfl (ltn rfl)) rfl ?_
    refine VL.va (op_move rfl (ltn rfl)) rfl ?_
    refine VL.letter (decide (i18712 < t18512)) fun b18766 hb18766 => ?_
    refine VL.va (op_cmp rfl rfl (congrArg some hb18766) (ltn rfl)) rfl ?_
    refine VL.done ?_
    refine VN.then ?_
    by_cases c18767 : i18712 < t18512
    · rw [if_pos c18767] at h
      obtain rfl : b18766 = true := hb18766.symm.trans (decide_eq_true c18767)
      refine VC.cond_t rfl ?_
      refine VC.skip ?_
      refine VN.then ?_
      refine VC.seq ?_
      refine VC.block ?_
      refine VC.seq ?_
      refine VC.region ?_
      refine VL.va (op_move rfl (ltn rfl)) rfl ?_
      replace h := Option.bind_eq_some_iff.1 h
      obtain ⟨⟨t18791, t18792, t18793⟩, hA18794, h⟩ := h
      dsimp only at h
      refine VL.sC (o_call0 FO31 (tarryref01_count.ok k s18708 4096 t18791 t18792 t18793 hA18794) rfl rfl (ltn rfl) (All_of .nil)) rfl ?_
      rintro _ _ _ ⟨rfl, rfl, rfl⟩
      refine VL.step1 (o_store 0 3 rfl rfl rfl TI28 (.agg (.of rfl)) rfl (len rfl)) rfl ?_
      refine VL.done ?_
      refine VN.then ?_
      refine VC.seq ?_
      refine VC.seq ?_
      refine VC.region ?_
      refine VL.va (op_fieldAddr FI28_2 rfl (add_at _ _ _) (ltn rfl)) rfl ?_
      refine VL.va (op_load 0 1 rfl rfl TI22 rfl (by decide) (ltn rfl)) rfl ?_
      refine VL.letter ((t18793 != 0)) fun b18798 hb18798 => ?_
      refine VL.va (op_cmp rfl rfl (congrArg some hb18798) (ltn rfl)) rfl ?_
      refine VL.done ?_
      refine VN.then ?_
      by_cases c18799 : t18793 = 0
      · rw [if_pos c18799] at h
        obtain rfl : b18798 = false := hb18798.symm.trans (bne_eq_false_iff_eq.2 c18799)
        refine VC.cond_f rfl ?_
        refine VC.skip ?_
        refine VN.then ?_
        refine VC.seq ?_
        refine VC.seq ?_
        refine VC.region ?_
        refine VL.va (op_fieldAddr FI28_0 rfl (add_at _ _ _) (ltn rfl)) rfl ?_
        refine VL.va (op_load 0 1 rfl rfl TI3 rfl (by decide) (ltn rfl)) rfl ?_
        refine VL.va (op_fieldAddr FI28_1 rfl (add_at _ _ _) (ltn rfl)) rfl ?_
        refine VL.va (op_load 0 1 rfl rfl TI9 rfl (by decide) (ltn rfl)) rfl ?_
        refine VL.va (op_lens Try.underlying9 rfl (ltn rfl)) rfl ?_
        refine VL.letter (decide (t18791 > (t18792.size : Int))) fun b18803 hb18803 => ?_
        refine VL.va (op_cmp rfl rfl (congrArg some hb18803) (ltn rfl)) rfl ?_
        refine VL.done ?_
        refine VN.then ?_
        by_cases c18804 : t18791 > (t18792.size : Int)
        · rw [if_pos c18804] at h
          obtain rfl : b18803 = true := hb18803.symm.trans (decide_eq_true c18804)
          refine VC.cond_t rfl ?_
          refine VC.seq ?_
          refine VC.region ?_
          refine VL.va (op_assign rfl (ltn rfl)) rfl ?_
          refine VL.va (op_assign rfl (ltn rfl)) rfl ?_
          refine VL.done ?_
          refine VN.then ?_
          refine VC.ret ?_
          refine VR.then ?_
          refine VR.block ?_
          refine VR.then ?_
          refine VR.then ?_
          refine VR.block ?_
          refine VR.then ?_
          simp only [Option.some.injEq, Prod.mk.injEq] at h
          obtain ⟨rfl, rfl⟩ := h
          refine VR.nilRow' 9 1 ?_
          exact VR.fn (rs := [.tmp 2, .tmp 3]) [] [((.slice none 0 0), 9, 1, ([] : List ByteArray).map enc_str)] [0] rfl (.tmp rfl (.tmp rfl .nil)) ⟨(.slice none 0 0), rfl, rfl, rfl⟩ trivial rfl (by decide)
        · rw [if_neg c18804] at h
          obtain rfl : b18803 = false := hb18803.symm.trans (decide_eq_false c18804)
          refine VC.cond_f rfl ?_
          refine VC.skip ?_
          refine VN.then ?_
          refine VC.seq ?_
          refine VC.region ?_
          refine VL.va (op_move rfl (ltn rfl)) rfl ?_
          refine VL.va (op_fieldAddr FI28_1 rfl (add_at _ _ _) (ltn rfl)) rfl ?_
          refine VL.va (op_load 0 1 rfl rfl TI9 rfl (by decide) (ltn rfl)) rfl ?_
          refine VL.va (op_fieldAddr FI28_0 rfl (add_at _ _ _) (ltn rfl)) rfl ?_
          refine VL.va (op_load 0 1 rfl rfl TI3 rfl (by decide) (ltn rfl)) rfl ?_
          by_cases c18806 : 0 ≤ t18791
          · rw [if_pos c18806] at h
            by_cases c18807 : t18791 ≤ (t18792.size : Int)
            · rw [if_pos c18807] at h
              refine VL.va (op_sliceS 0 t18791.toNat Try.underlying9 rfl ⟨rfl, ⟨_, _, rfl, c18806, rfl⟩, by omega, by omega⟩ rfl (ltn rfl)) rfl ?_
              refine VL.sG (o_buildSlice (vals := [(0, .string (t18792.extract 0 t18791.toNat))]) (cells := #[.string (t18792.extract 0 t18791.toNat)]) (es := List.map enc_str ([t18792.extract 0 t18791.toNat] : List ByteArray)) Try.underlying39 TI9 Z9 rfl (by decide) (by decide) (by kernel_rfl) (by kernel_rfl) rfl (flat_map enc_str_ok _) (ltn rfl)) rfl ?_
              intro v18809
              by_cases c18810 : (l18711.length + ([t18792.extract 0 t18791.toNat] : List ByteArray).length) * 16 ≤ 140737488355328
              · rw [if_pos c18810] at h
                refine VL.sG (o_append 1 appm Try.underlying39 EI9 rfl rfl rfl (.inr ⟨0, _, rfl⟩) (bndm c18810) (ltn rfl)) rfl ?_
                intro v18811
                refine VL.va (op_assign rfl (ltn rfl)) rfl ?_
                refine VL.done ?_
                refine VN.then ?_
                refine VC.region ?_
                refine VL.va (op_fieldAddr FI28_1 rfl (add_at _ _ _) (ltn rfl)) rfl ?_
                refine VL.va (op_load 0 1 rfl rfl TI9 rfl (by decide) (ltn rfl)) rfl ?_
                refine VL.va (op_fieldAddr FI28_0 rfl (add_at _ _ _) (ltn rfl)) rfl ?_
                refine VL.va (op_load 0 1 rfl rfl TI3 rfl (by decide) (ltn rfl)) rfl ?_
                refine VL.va (op_sliceS t18791.toNat t18792.size Try.underlying9 rfl ⟨⟨_, _, rfl, c18806, rfl⟩, rfl, by omega, by omega⟩ rfl (ltn rfl)) rfl ?_
                refine VL.va (op_assign rfl (ltn rfl)) rfl ?_
                refine VL.done ?_
                refine VN.block ?_
                refine VN.then ?_
                refine VC.region ?_
                refine VL.va (op_move rfl (ltn rfl)) rfl ?_
                refine VL.va (op_ari64 rfl rfl rfl (ltn rfl)) rfl ?_
                refine VL.va (op_assign rfl (ltn rfl)) rfl ?_
                refine VL.done ?_
                refine VN.again [0] [1] (ihl1 (t18792.extract t18791.toNat t18792.size) v18811 (l18711 ++ ([t18792.extract 0 t18791.toNat] : List ByteArray)) (wrap64 (i18712 + 1)) t18791 t18792 t18793 h) ⟨rfl, ⟨rfl, rfl, rfl, rfl, rfl, rfl, rfl, trivial⟩, trivial, rfl, by decide, rfl, by decide⟩
              · rw [if_neg c18810] at h; cases h
            · rw [if_neg c18807] at h; cases h
          · rw [if_neg c18806] at h; cases h
      · rw [if_neg c18799] at h
        obtain rfl : b18798 = true := hb18798.symm.trans (bne_iff_ne.2 c18799)
        refine VC.cond_t rfl ?_
        refine VC.join0 (⟨55, [(0, .string s18708), (2, .slice none 0 0), (3, .int .i64 t18793), (4, .pointer (some ⟨g18516, 0, none⟩)), (5, .int .i64 t18512), (6, v18710), (7, .int .i64 i18712), (20, .int .i64 i18712), (21, .int .i64 t18512), (22, .bool true), (25, .string s18708), (26, .agg #[.int .i64 t18791, .string t18792, .int .i64 t18793]), (27, .pointer (some ⟨g18516, 2, none⟩)), (28, .int .i64 t18793), (29, .bool true), (30, .pointer (some ⟨g18516, 2, none⟩)), (31, .int .i64 t18793)], [], [(g18516, 28, [.int .i64 t18791, .string t18792, .int .i64 t18793])], [(v18710, 9, 1, l18711.map enc_str)]⟩) (True) ?_ ?_
        · refine VC.draw ⟨0, [], [], [(g18516, 28, [.int .i64 t18791, .string t18792, .int .i64 t18793])], []⟩ (by kernel_rfl) rfl (by kernel_rfl) (n := 4) (listed := LB 4 0) ?_
          refine VA.va (i := 0) (listed' := LB 4 1) rfl (op_fieldAddr FI28_2 rfl (add_at _ _ _) (ltn rfl)) rfl (by kernel_rfl) (by kernel_rfl) (by kernel_rfl) (by kernel_rfl) ⟨trivial, ⟨⟨0, rfl⟩, trivial⟩, trivial⟩ (fun _ _ _ h => h) ?_
          refine VA.va (i := 1) (listed' := LB 4 3) rfl (op_load 0 1 rfl rfl TI22 rfl (by decide) (ltn rfl)) rfl (by kernel_rfl) (by kernel_rfl) (by kernel_rfl) (by kernel_rfl) ⟨trivial, ⟨⟨0, rfl⟩, trivial⟩, trivial⟩ (fun _ _ _ h => h) ?_
          refine VA.va (i := 2) (listed' := LB 4 7) rfl (op_assign rfl (ltn rfl)) rfl (by kernel_rfl) (by kernel_rfl) (by kernel_rfl) (by kernel_rfl) ⟨trivial, ⟨⟨0, rfl⟩, trivial⟩, trivial⟩ (fun _ _ _ h => h) ?_
          refine VA.va (i := 3) (listed' := LB 4 15) rfl (op_assign rfl (ltn rfl)) rfl (by kernel_rfl) (by kernel_rfl) (by kernel_rfl) (by kernel_rfl) ⟨trivial, ⟨⟨0, rfl⟩, trivial⟩, trivial⟩ (fun _ _ _ h => h) ?_
          refine VA.done (by kernel_rfl) ?_
          exact VN.meet0  [0] [0] trivial ⟨rfl, ⟨rfl, rfl, rfl, rfl, rfl, rfl, rfl, rfl, rfl, rfl, rfl, rfl, rfl, rfl, rfl, rfl, rfl, trivial⟩, trivial, rfl, by decide, rfl, by decide⟩
        intro _
        refine VC.ret ?_
        refine VR.then ?_
        refine VR.block ?_
        refine VR.then ?_
        refine VR.then ?_
        refine VR.block ?_
        refine VR.then ?_
        simp only [Option.some.injEq, Prod.mk.injEq] at h
        obtain ⟨rfl, rfl⟩ := h
        refine VR.nilRow' 9 1 ?_
        exact VR.fn (rs := [.tmp 2, .tmp 3]) [] [((.slice none 0 0), 9, 1, ([] : List ByteArray).map enc_str)] [0] rfl (.tmp rfl (.tmp rfl .nil)) ⟨(.slice none 0 0), rfl, rfl, rfl⟩ trivial rfl (by decide)
    · rw [if_neg c18767] at h
      obtain rfl : b18766 = false := hb18766.symm.trans (decide_eq_false c18767)
      refine VC.cond_f rfl ?_
      refine VC.exit ?_
      refine VX.then ?_
      refine VX.then ?_
      refine VX.hit ?_
      refine VN.then ?_
      refine VC.seq ?_
      refine VC.seq ?_
      refine VC.region ?_
      refine VL.va (op_move rfl (ltn rfl)) rfl ?_
      refine VL.va (op_lens Try.underlying9 rfl (ltn rfl)) rfl ?_
      refine VL.letter (decide ((s18708.size : Int) > 0)) fun b18817 hb18817 => ?_
      refine VL.va (op_cmp rfl rfl (congrArg some hb18817) (ltn rfl)) rfl ?_
      refine VL.done ?_
      refine VN.then ?_
      by_cases c18818 : (s18708.size : Int) > 0
      · rw [if_pos c18818] at h
        obtain rfl : b18817 = true := hb18817.symm.trans (decide_eq_true c18818)
        refine VC.cond_t rfl ?_
        refine VC.seq ?_
        refine VC.region ?_
        refine VL.va (op_assign rfl (ltn rfl)) rfl ?_
        refine VL.va (op_assign rfl (ltn rfl)) rfl ?_
        refine VL.done ?_
        refine VN.then ?_
        refine VC.ret ?_
        refine VR.then ?_
        simp only [Option.some.injEq, Prod.mk.injEq] at h
        obtain ⟨rfl, rfl⟩ := h
        refine VR.nilRow' 9 1 ?_
        exact VR.fn (rs := [.tmp 2, .tmp 3]) [] [((.slice none 0 0), 9, 1, ([] : List ByteArray).map enc_str)] [0] rfl (.tmp rfl (.tmp rfl .nil)) ⟨(.slice none 0 0), rfl, rfl, rfl⟩ trivial rfl (by decide)
      · rw [if_neg c18818] at h
        obtain rfl : b18817 = false := hb18817.symm.trans (decide_eq_false c18818)
        refine VC.cond_f rfl ?_
        refine VC.skip ?_
        refine VN.then ?_
        refine VC.seq ?_
        refine VC.region ?_
        refine VL.va (op_move rfl (ltn rfl)) rfl ?_
        refine VL.va (op_assign rfl (ltn rfl)) rfl ?_
        refine VL.va (op_assign rfl (ltn rfl)) rfl ?_
        refine VL.done ?_
        refine VN.then ?_
        refine VC.ret ?_
        simp only [Option.some.injEq, Prod.mk.injEq] at h
        obtain ⟨rfl, rfl⟩ := h
        exact VR.fn (rs := [.tmp 2, .tmp 3]) [] [(v18710, 9, 1, l18711.map enc_str)] [0] rfl (.tmp rfl (.tmp rfl .nil)) ⟨v18710, rfl, rfl, rfl⟩ trivial rfl (by decide)
  · rw [if_neg c18521] at h
    obtain rfl : b18520 = true := hb18520.symm.trans (bne_iff_ne.2 c18521)
    refine VC.cond_t rfl ?_
    refine VC.join0 (⟨55, [(0, .string a0), (2, .slice none 0 0), (3, .int .i64 t18514), (4, .pointer (some ⟨g18516, 0, none⟩))], [], [(g18516, 28, [.int .i64 t18512, .string t18513, .int .i64 t18514])], []⟩) (True) ?_ ?_
    · refine VC.draw ⟨0, [], [], [(g18516, 28, [.int .i64 t18512, .string t18513, .int .i64 t18514])], []⟩ (by kernel_rfl) rfl (by kernel_rfl) (n := 4) (listed := LB 4 0) ?_
      refine VA.va (i := 0) (listed' := LB 4 1) rfl (op_fieldAddr FI28_2 rfl (add_at _ _ _) (ltn rfl)) rfl (by kernel_rfl) (by kernel_rfl) (by kernel_rfl) (by kernel_rfl) ⟨trivial, ⟨⟨0, rfl⟩, trivial⟩, trivial⟩ (fun _ _ _ h => h) ?_
      refine VA.va (i := 1) (listed' := LB 4 3) rfl (op_load 0 1 rfl rfl TI22 rfl (by decide) (ltn rfl)) rfl (by kernel_rfl) (by kernel_rfl) (by kernel_rfl) (by kernel_rfl) ⟨trivial, ⟨⟨0, rfl⟩, trivial⟩, trivial⟩ (fun _ _ _ h => h) ?_
      refine VA.va (i := 2) (listed' := LB 4 7) rfl (op_assign rfl (ltn rfl)) rfl (by kernel_rfl) (by kernel_rfl) (by kernel_rfl) (by kernel_rfl) ⟨trivial, ⟨⟨0, rfl⟩, trivial⟩, trivial⟩ (fun _ _ _ h => h) ?_
      refine VA.va (i := 3) (listed' := LB 4 15) rfl (op_assign rfl (ltn rfl)) rfl (by kernel_rfl) (by kernel_rfl) (by kernel_rfl) (by kernel_rfl) ⟨trivial, ⟨⟨0, rfl⟩, trivial⟩, trivial⟩ (fun _ _ _ h => h) ?_
      refine VA.done (by kernel_rfl) ?_
      exact VN.meet0  [0] [] trivial ⟨rfl, ⟨rfl, rfl, rfl, rfl, trivial⟩, trivial, rfl, by decide, rfl, by decide⟩
    intro _
    refine VC.ret ?_
    refine VR.then ?_
    simp only [Option.some.injEq, Prod.mk.injEq] at h
    obtain ⟨rfl, rfl⟩ := h
    refine VR.nilRow' 9 1 ?_
    exact VR.fn (rs := [.tmp 2, .tmp 3]) [] [((.slice none 0 0), 9, 1, ([] : List ByteArray).map enc_str)] [0] rfl (.tmp rfl (.tmp rfl .nil)) ⟨(.slice none 0 0), rfl, rfl, rfl⟩ trivial rfl (by decide)

end Go.Proofs.Ytacenfolbmdpoaa.PPackRows
