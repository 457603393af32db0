/- Written by a program of this repo: what the program's functions do, each as a Lean function, shown of the loaded code; or a statement's row over that; no condition of its own. -/
import Derived.Test.YtipeglbeongfmaaPJournalUnusedx3
namespace Go.Proofs.Ytipeglbeongfmaa.PJournalUnused
open Go Go.RowKit Go.Proofs.YtipeglbeongfmaaV
set_option linter.unusedVariables false
set_option linter.unusedSimpArgs false

set_option maxHeartbeats 4000000 in
set_option maxRecDepth 100000 in
theorem journal_begin.ok (a0 : Int) (a1 : Int)  (r1 : Int) (h : journal_begin.f a0 a1 = some r1) :
    VCalls Try.prog 25 [.int .i64 a0, .int .i64 a1] [] (fun v G own => v = .int .i64 r1 ∧ G = [] ∧ own = []) := by
  refine VCalls.intro Try.func25 rfl (len rfl) fun E hC hW hD hU => ?_
  unfold journal_begin.f at h
  refine VC.seq ?_
  refine VC.region ?_
  refine VL.va (op_assign rfl (ltn rfl)) rfl ?_
  refine VL.done ?_
  refine VN.then ?_
  refine VC.seq ?_
  refine VC.region ?_
  refine VL.va (op_move rfl (ltn rfl)) rfl ?_
  refine VL.va (op_move rfl (ltn rfl)) rfl ?_
  refine VL.va (op_ari64 rfl rfl rfl (ltn rfl)) rfl ?_
  refine VL.va (op_quo rfl rfl (by decide) rfl (ltn rfl)) rfl ?_
  refine VL.va (op_ari64 rfl rfl rfl (ltn rfl)) rfl ?_
  refine VL.va (op_ari64 rfl rfl rfl (ltn rfl)) rfl ?_
  refine VL.va (op_assign rfl (ltn rfl)) rfl ?_
  refine VL.done ?_
  refine VN.then ?_
  refine VC.ret ?_
  obtain rfl := Option.some.inj h
  exact VR.fn (rs := [.tmp 4]) [] [] [] rfl (.tmp rfl .nil) ⟨rfl, rfl, rfl⟩ trivial rfl (by decide)
def lay_27_ren : Go.Shelf.Ren := ⟨fun | 156 => 27 | 165 => 57 | 166 => 58 | 169 => 59 | 240 => 77 | 241 => 78 | 276 => 91 | 277 => 92 | n => n, fun | 31 => 22 | 9 => 9 | 3 => 3 | 4 => 4 | 0 => 0 | 20 => 20 | 72 => 96 | 76 => 100 | 70 => 94 | 37 => 41 | 75 => 99 | 127 => 119 | 164 => 133 | 5 => 5 | 80 => 76 | n => n, fun | n => n⟩
theorem lay_27 : Go.Proofs.Lays.n156 Try.prog lay_27_ren where
  mixed := by kernel_rfl
  f156 := Try.func27.trans (congrArg some (by kernel_rfl))
  f165 := Try.func57.trans (congrArg some (by kernel_rfl))
  f166 := Try.func58.trans (congrArg some (by kernel_rfl))
  f169 := Try.func59.trans (congrArg some (by kernel_rfl))
  f240 := Try.func77.trans (congrArg some (by kernel_rfl))
  f241 := Try.func78.trans (congrArg some (by kernel_rfl))
  f276 := Try.func91.trans (congrArg some (by kernel_rfl))
  f277 := Try.func92.trans (congrArg some (by kernel_rfl))
  t0 := Try.underlying0
  a0 := Try.isAgg0
  z0 := Try.sizeOf0
  v0 := Try.zeroValue0
  t3 := Try.underlying3
  a3 := Try.isAgg3
  z3 := Try.sizeOf3
  v3 := Try.zeroValue3
  t4 := Try.underlying4
  a4 := Try.isAgg4
  z4 := Try.sizeOf4
  v4 := Try.zeroValue4
  t9 := Try.underlying9
  a9 := Try.isAgg9
  z9 := Try.sizeOf9
  v9 := Try.zeroValue9
  t20 := Try.underlying20
  a20 := Try.isAgg20
  z20 := Try.sizeOf20
  v20 := Try.zeroValue20
  t31 := Try.underlying22
  a31 := Try.isAgg22
  z31 := Try.sizeOf22
  v31 := Try.zeroValue22
  t37 := Try.underlying41
  a37 := Try.isAgg41
  z37 := Try.sizeOf41
  v37 := Try.zeroValue41
  t70 := Try.underlying94
  a70 := Try.isAgg94
  z70 := Try.sizeOf94
  v70 := Try.zeroValue94
  t72 := Try.underlying96
  a72 := Try.isAgg96
  z72 := Try.sizeOf96
  v72 := Try.zeroValue96
  t75 := Try.underlying99
  a75 := Try.isAgg99
  z75 := Try.sizeOf99
  v75 := Try.zeroValue99
  t76 := Try.underlying100
  a76 := Try.isAgg100
  z76 := Try.sizeOf100
  v76 := Try.zeroValue100
  t127 := Try.underlying119
  a127 := Try.isAgg119
  z127 := Try.sizeOf119
  v127 := Try.zeroValue119
  t164 := Try.underlying133
  a164 := Try.isAgg133
  z164 := Try.sizeOf133
  v164 := Try.zeroValue133
theorem lay_27x : Go.Proofs.Builder.Extra Try.prog lay_27_ren where
  sizeBuilder := by kernel_rfl
  liesBuilder := by kernel_rfl
  t5 := Try.underlying5
  a5 := Try.isAgg5
  z5 := Try.sizeOf5
  v5 := Try.zeroValue5
  infoByte := by kernel_rfl
  cellsByte := by kernel_rfl
  sizeByte := by kernel_rfl
  neB5 := by decide

theorem strings_Join.ok (l0 : List ByteArray) (s : ByteArray) (v0 : Value) (r1 : ByteArray) (h : strings_Join.f l0 s = some r1) :
    VCalls Try.prog 27 [v0, .string s] [.row v0 1 (l0.map enc_str)] (fun v G own => v = .string r1 ∧ G = [] ∧ own = []) := by
  unfold strings_Join.f at h
  by_cases hc : ¬ (l0.length ≤ 140737488355328 ∧ (Go.Lib.join (l0.map (·.data.toList)) s.data.toList).length ≤ 140737488355328)
  · rw [if_neg hc] at h; cases h
  replace hc := Decidable.not_not.1 hc
  rw [if_pos hc] at h
  obtain rfl := Option.some.inj h
  clear h
  intro C w hC hF
  obtain ⟨hfl, A, c, hv, h1, h2, h3, h4⟩ := hF _ (List.mem_singleton.2 rfl)
  subst hv
  rw [lenm] at h1 h3 ⊢
  cases l0 with
  | nil => exact (Go.Proofs.Any.strings_Join_none lay_27 lay_27x A c s w).mono fun e w' hq => ⟨_, [], [], hq.1, ⟨rfl, rfl, rfl⟩, by simp, by simp, by simp [ownBs], hq.2 ▸ Below.refl _ _⟩
  | cons x xs =>
    obtain ⟨ad, rfl, hCa⟩ := h3 (by simp)
    have hcell : ∀ (j : Nat) y, (x :: xs)[j]? = some y → w.cell? (ad.add j) = some (.string y) := by
      intro j y hy
      have := h4 j (enc_str y) (by rw [List.getElem?_map, hy]; rfl) ad rfl 0 (.string y) rfl
      simpa using this
    have h0 := hcell 0 x rfl
    have hadd : ad.add 0 = ad := rfl
    rw [hadd] at h0
    obtain ⟨bk, o, sp⟩ := ad
    have hsp : sp = none := by
      cases sp with
      | none => rfl
      | some q =>
        exfalso
        unfold World.cell? at h0
        split at h0
        · simp at h0
        · cases h0
    subst hsp
    refine (Go.Proofs.Any.strings_Join lay_27 lay_27x bk o c (x :: xs) s w (fun j y hy => ?_) (World.block_lt_of_cell? _ _ h0) hc.1 h1 hc.2).mono fun e w' hq => ⟨_, [], [], hq.1, ⟨rfl, rfl, rfl⟩, by simp, by simp, by simp [ownBs], hq.2⟩
    have := hcell j y hy
    rw [add_at] at this
    exact this
set_option maxHeartbeats 4000000 in
set_option maxRecDepth 100000 in
theorem pack_may.ok (a0 : Int)  (r1 : Bool) (h : pack_may.f a0 = some r1) :
    VCalls Try.prog 99 [.int .i64 a0] [] (fun v G own => v = .bool r1 ∧ G = [] ∧ own = []) := by
  refine VCalls.intro Try.func99 rfl (len rfl) fun E hC hW hD hU => ?_
  unfold pack_may.f at h
  refine VC.seq ?_
  refine VC.region ?_
  refine VL.va (op_assign rfl (ltn rfl)) rfl ?_
  refine VL.done ?_
  refine VN.then ?_
  refine VC.seq ?_
  refine VC.region ?_
  refine VL.va (op_move rfl (ltn rfl)) rfl ?_
  refine VL.letter (decide (a0 ≥ (-1152921504606846976))) fun b2249 hb2249 => ?_
  refine VL.va (op_cmp rfl rfl (congrArg some hb2249) (ltn rfl)) rfl ?_
  refine VL.va (op_move rfl (ltn rfl)) rfl ?_
  by_cases c2250 : a0 ≥ (-1152921504606846976)
  · rw [if_pos c2250] at h
    obtain rfl : b2249 = true := hb2249.symm.trans (decide_eq_true c2250)
    refine VL.va (op_move rfl (ltn rfl)) rfl ?_
    refine VL.letter (decide (a0 ≤ 1152921504606846976)) fun b2251 hb2251 => ?_
    refine VL.va (op_cmp rfl rfl (congrArg some hb2251) (ltn rfl)) rfl ?_
    refine VL.va (op_pick rfl rfl (ltn rfl)) rfl ?_
    refine VL.va (op_assign rfl (ltn rfl)) rfl ?_
    refine VL.done ?_
    refine VN.then ?_
    refine VC.ret ?_
    obtain rfl := Option.some.inj h
    subst hb2251
    exact VR.fn (rs := [.tmp 2]) [] [] [] rfl (.tmp rfl .nil) ⟨rfl, rfl, rfl⟩ trivial rfl (by decide)
  · rw [if_neg c2250] at h
    obtain rfl : b2249 = false := hb2249.symm.trans (decide_eq_false c2250)
    refine VL.un rfl rfl (ltn rfl) ?_
    refine VL.un rfl rfl (ltn rfl) ?_
    refine VL.va (op_pick rfl rfl (ltn rfl)) rfl ?_
    refine VL.va (op_assign rfl (ltn rfl)) rfl ?_
    refine VL.done ?_
    refine VN.then ?_
    refine VC.ret ?_
    obtain rfl := Option.some.inj h
    exact VR.fn (rs := [.tmp 2]) [] [] [] rfl (.tmp rfl .nil) ⟨rfl, rfl, rfl⟩ trivial rfl (by decide)
set_option maxHeartbeats 4000000 in
set_option maxRecDepth 100000 in
theorem pack_ReadNumber.ok (k : Nat) (a0 : ByteArray)  (r1 : Int) (r2 : ByteArray) (r3 : Int) (h : pack_ReadNumber.f k a0 = some (r1, r2, r3)) :
    VCalls Try.prog 88 [.string a0] [] (fun v G own => v = .tuple #[.int .i64 r1, .string r2, .int .i64 r3] ∧ G = [] ∧ own = []) := by
  refine VCalls.intro Try.func88 rfl (len rfl) fun E hC hW hD hU => ?_
  unfold pack_ReadNumber.f at h
  refine VC.seq ?_
  refine VC.region ?_
  refine VL.va (op_assign rfl (ltn rfl)) rfl ?_
  refine VL.va (op_assign rfl (ltn rfl)) rfl ?_
  refine VL.va (op_assign rfl (ltn rfl)) rfl ?_
  refine VL.done ?_
  refine VN.then ?_
  refine VC.seq ?_
  refine VC.region ?_
  refine VL.va (op_assign rfl (ltn rfl)) rfl ?_
  refine VL.done ?_
  refine VN.then ?_
  refine VC.seq ?_
  refine VC.seq ?_
  refine VC.region ?_
  refine VL.va (op_move rfl (ltn rfl)) rfl ?_
  refine VL.va (op_lens Try.underlying9 rfl (ltn rfl)) rfl ?_
  refine VL.va (op_min rfl rfl (ltn rfl)) rfl ?_
  refine VL.va (op_move rfl (ltn rfl)) rfl ?_
  refine VL.done ?_
  refine VN.then ?_
  refine VC.block ?_
  refine VC.loop2 (fun (i3343 : Int) (i3344 : Int) => ⟨56, [(0, .string a0), (2, .int .i64 0), (3, .string (⟨#[]⟩ : ByteArray)), (4, .int .i64 0), (5, .int .i64 i3343), (11, .int .i64 (mn (a0.size : Int) 9)), (12, .int .i64 i3344)], [], [], []⟩) (fun (ml3 : Nat) (i3343 : Int) (i3344 : Int) => pack_ReadNumber.l3 k a0 ml3 i3343 i3344 = some (r1, r2, r3)) k 0 0 [] [] h ⟨rfl, ⟨rfl, rfl, rfl, rfl, rfl, rfl, rfl, trivial⟩, trivial, rfl, by decide, rfl, by decide⟩ (by intros; simp [pack_ReadNumber.l3]) ?_
  clear h
  intro ml3 ihl3 i3343 i3344 h
  simp only [pack_ReadNumber.l3] at h
  refine VC.seq ?_
  refine VC.region ?_
  refine VL.letter (decide (i3344 < (mn (a0.size : Int) 9))) fun b3646 hb3646 => ?_
  refine VL.va (op_cmp rfl rfl (congrArg some hb3646) (ltn rfl)) rfl ?_
  refine VL.done ?_
  refine VN.then ?_
  refine VC.seq ?_
  by_cases c3652 : i3344 < (mn (a0.size : Int) 9)
  · rw [if_pos c3652] at h
    obtain rfl : b3646 = true := hb3646.symm.trans (decide_eq_true c3652)
    refine VC.cond_t rfl ?_
    refine VC.skip ?_
    refine VN.then ?_
    refine VC.seq ?_
    refine VC.block ?_
    refine VC.seq ?_
    refine VC.region ?_
    refine VL.va (op_move rfl (ltn rfl)) rfl ?_
    refine VL.va (op_assign rfl (ltn rfl)) rfl ?_
    refine VL.done ?_
    refine VN.then ?_
    refine VC.seq ?_
    refine VC.region ?_
    refine VL.va (op_move rfl (ltn rfl)) rfl ?_
    refine VL.va (op_move rfl (ltn rfl)) rfl ?_
    by_cases c3802 : 0 ≤ i3344
    · rw [if_pos c3802] at h
      by_cases c3803 : i3344 < (a0.size : Int)
      · rw [if_pos c3803] at h
        refine VL.va (op_indexS Try.underlying9 rfl rfl c3802 c3803 rfl (ltn rfl)) rfl ?_
        refine VL.va (op_conv Try.underlying5 Try.underlying3 rfl (i64w _) (ltn rfl)) rfl ?_
        refine VL.va (op_assign rfl (ltn rfl)) rfl ?_
        refine VL.done ?_
        refine VN.then ?_
        refine VC.seq ?_
        refine VC.region ?_
        refine VL.va (op_move rfl (ltn rfl)) rfl ?_
        refine VL.va (op_move rfl (ltn rfl)) rfl ?_
        refine VL.va (op_rem rfl rfl (by decide) rfl (ltn rfl)) rfl ?_
        refine VL.va (op_move rfl (ltn rfl)) rfl ?_
        refine VL.va (op_ari64 rfl rfl rfl (ltn rfl)) rfl ?_
        by_cases c3804 : 0 ≤ wrap64 (7 * i3344)
        · rw [if_pos c3804] at h
          refine VL.va (op_shl rfl rfl c3804 rfl (ltn rfl)) rfl ?_
          refine VL.va (op_bits rfl rfl rfl (ltn rfl)) rfl ?_
          refine VL.va (op_assign rfl (ltn rfl)) rfl ?_
          refine VL.done ?_
          refine VN.then ?_
          refine VC.seq ?_
          refine VC.seq ?_
          refine VC.region ?_
          refine VL.va (op_move rfl (ltn rfl)) rfl ?_
          refine VL.letter (decide ((wrap64 (bt a0 i3344)) ≥ 128)) fun b3807 hb3807 => ?_
          refine VL.va (op_cmp rfl rfl (congrArg some hb3807) (ltn rfl)) rfl ?_
          refine VL.done ?_
          refine VN.then ?_
          by_cases c3808 : (wrap64 (bt a0 i3344)) ≥ 128
          · rw [if_pos c3808] at h
            obtain rfl : b3807 = true := hb3807.symm.trans (decide_eq_true c3808)
            refine VC.cond_t rfl ?_
            refine VC.exit ?_
            refine VX.then ?_
            refine VX.hit ?_
            refine VN.then ?_
            refine VC.region ?_
            refine VL.va (op_ari64 rfl rfl rfl (ltn rfl)) rfl ?_
            refine VL.va (op_move rfl (ltn rfl)) rfl ?_
            refine VL.done ?_
            refine VN.again [] [] (ihl3 (Go.bits .or .i64 i3343 (IntKind.i64.wrap (((wrap64 (bt a0 i3344)).tmod 128) * 2 ^ min (wrap64 (7 * i3344)).toNat IntKind.i64.bits))) (wrap64 (i3344 + 1)) h) ⟨rfl, ⟨rfl, rfl, rfl, rfl, rfl, rfl, rfl, trivial⟩, trivial, rfl, by decide, rfl, by decide⟩
          · rw [if_neg c3808] at h
            obtain rfl : b3807 = false := hb3807.symm.trans (decide_eq_false c3808)
            refine VC.cond_f rfl ?_
            refine VC.skip ?_
            refine VN.then ?_
            refine VC.seq ?_
            refine VC.region ?_
            refine VL.va (op_move rfl (ltn rfl)) rfl ?_
            refine VL.va (op_quo rfl rfl (by decide) rfl (ltn rfl)) rfl ?_
            refine VL.va (op_assign rfl (ltn rfl)) rfl ?_
            refine VL.done ?_
            refine VN.then ?_
            refine VC.join2 (fun (i3905 : Int) (q3906 : Bool) => ⟨56, [(0, .string a0), (2, .int .i64 0), (3, .string (⟨#[]⟩ : ByteArray)), (4, .int .i64 0), (5, .int .i64 (Go.bits .or .i64 i3343 (IntKind.i64.wrap (((wrap64 (bt a0 i3344)).tmod 128) * 2 ^ min (wrap64 (7 * i3344)).toNat IntKind.i64.bits)))), (6, .int .i64 i3344), (7, .int .i64 (wrap64 (bt a0 i3344))), (8, .int .i64 i3905), (11, .int .i64 (mn (a0.size : Int) 9)), (12, .int .i64 i3344), (13, .bool true), (14, .int .i64 i3344), (15, .string a0), (16, .int .i64 i3344), (17, .int .u8 (bt a0 i3344)), (18, .int .i64 (wrap64 (bt a0 i3344))), (19, .int .i64 i3343), (20, .int .i64 (wrap64 (bt a0 i3344))), (21, .int .i64 ((wrap64 (bt a0 i3344)).tmod 128)), (22, .int .i64 i3344), (23, .int .i64 (wrap64 (7 * i3344))), (24, .int .i64 (IntKind.i64.wrap (((wrap64 (bt a0 i3344)).tmod 128) * 2 ^ min (wrap64 (7 * i3344)).toNat IntKind.i64.bits))), (25, .int .i64 (Go.bits .or .i64 i3343 (IntKind.i64.wrap (((wrap64 (bt a0 i3344)).tmod 128) * 2 ^ min (wrap64 (7 * i3344)).toNat IntKind.i64.bits)))), (26, .int .i64 (wrap64 (bt a0 i3344))), (27, .bool false), (28, .int .i64 (Go.bits .or .i64 i3343 (IntKind.i64.wrap (((wrap64 (bt a0 i3344)).tmod 128) * 2 ^ min (wrap64 (7 * i3344)).toNat IntKind.i64.bits)))), (29, .int .i64 (IntKind.i64.wrap ((Go.bits .or .i64 i3343 (IntKind.i64.wrap (((wrap64 (bt a0 i3344)).tmod 128) * 2 ^ min (wrap64 (7 * i3344)).toNat IntKind.i64.bits))).tdiv 2))), (30, .int .i64 (Go.bits .or .i64 i3343 (IntKind.i64.wrap (((wrap64 (bt a0 i3344)).tmod 128) * 2 ^ min (wrap64 (7 * i3344)).toNat IntKind.i64.bits)))), (31, .int .i64 ((Go.bits .or .i64 i3343 (IntKind.i64.wrap (((wrap64 (bt a0 i3344)).tmod 128) * 2 ^ min (wrap64 (7 * i3344)).toNat IntKind.i64.bits))).tmod 2)), (32, .bool q3906)], [], [], []⟩) (fun (i3905 : Int) (q3906 : Bool) => pack_ReadNumber.j5 k a0 i3344 i3905 q3906 = some (r1, r2, r3)) ?_ ?_
            · refine VC.seq ?_
              refine VC.region ?_
              refine VL.va (op_move rfl (ltn rfl)) rfl ?_
              refine VL.va (op_rem rfl rfl (by decide) rfl (ltn rfl)) rfl ?_
              refine VL.letter ((((Go.bits .or .i64 i3343 (IntKind.i64.wrap (((wrap64 (bt a0 i3344)).tmod 128) * 2 ^ min (wrap64 (7 * i3344)).toNat IntKind.i64.bits))).tmod 2) == 1)) fun b3903 hb3903 => ?_
              refine VL.va (op_cmp rfl rfl (congrArg some hb3903) (ltn rfl)) rfl ?_
              refine VL.done ?_
              refine VN.then ?_
              by_cases c3904 : ((Go.bits .or .i64 i3343 (IntKind.i64.wrap (((wrap64 (bt a0 i3344)).tmod 128) * 2 ^ min (wrap64 (7 * i3344)).toNat IntKind.i64.bits))).tmod 2) = 1
              · rw [if_pos c3904] at h
                obtain rfl : b3903 = true := hb3903.symm.trans (beq_iff_eq.2 c3904)
                refine VC.cond_t rfl ?_
                refine VC.region ?_
                refine VL.va (op_move rfl (ltn rfl)) rfl ?_
                refine VL.va (op_neg rfl (i64w _) (ltn rfl)) rfl ?_
                refine VL.va (op_ari64 rfl rfl rfl (ltn rfl)) rfl ?_
                refine VL.va (op_assign rfl (ltn rfl)) rfl ?_
                refine VL.done ?_
                refine VN.meet2 (wrap64 ((wrap64 (0 - (IntKind.i64.wrap ((Go.bits .or .i64 i3343 (IntKind.i64.wrap (((wrap64 (bt a0 i3344)).tmod 128) * 2 ^ min (wrap64 (7 * i3344)).toNat IntKind.i64.bits))).tdiv 2)))) - 1)) true [] [] h ⟨rfl, ⟨rfl, rfl, rfl, rfl, rfl, rfl, rfl, rfl, rfl, rfl, rfl, rfl, rfl, rfl, rfl, rfl, rfl, rfl, rfl, rfl, rfl, rfl, rfl, rfl, rfl, rfl, rfl, rfl, rfl, rfl, trivial⟩, trivial, rfl, by decide, rfl, by decide⟩
              · rw [if_neg c3904] at h
                obtain rfl : b3903 = false := hb3903.symm.trans (beq_eq_false_iff_ne.2 c3904)
                refine VC.cond_f rfl ?_
                refine VC.skip ?_
                refine VN.meet2 (IntKind.i64.wrap ((Go.bits .or .i64 i3343 (IntKind.i64.wrap (((wrap64 (bt a0 i3344)).tmod 128) * 2 ^ min (wrap64 (7 * i3344)).toNat IntKind.i64.bits))).tdiv 2)) false [] [] h ⟨rfl, ⟨rfl, rfl, rfl, rfl, rfl, rfl, rfl, rfl, rfl, rfl, rfl, rfl, rfl, rfl, rfl, rfl, rfl, rfl, rfl, rfl, rfl, rfl, rfl, rfl, rfl, rfl, rfl, rfl, rfl, rfl, trivial⟩, trivial, rfl, by decide, rfl, by decide⟩
            clear h
            intro i3905 q3906 h
            unfold pack_ReadNumber.j5 at h
            refine VC.seq ?_
            refine VC.seq ?_
            refine VC.region ?_
            refine VL.va (op_move rfl (ltn rfl)) rfl ?_
            refine VL.letter (((wrap64 (bt a0 i3344)) == 0)) fun b3937 hb3937 => ?_
            refine VL.va (op_cmp rfl rfl (congrArg some hb3937) (ltn rfl)) rfl ?_
            refine VL.va (op_move rfl (ltn rfl)) rfl ?_
            by_cases c3938 : (wrap64 (bt a0 i3344)) = 0
            · rw [if_pos c3938] at h
              obtain rfl : b3937 = true := hb3937.symm.trans (beq_iff_eq.2 c3938)
              refine VL.va (op_move rfl (ltn rfl)) rfl ?_
              refine VL.letter (decide (i3344 > 0)) fun b3939 hb3939 => ?_
              refine VL.va (op_cmp rfl rfl (congrArg some hb3939) (ltn rfl)) rfl ?_
              refine VL.va (op_pick rfl rfl (ltn rfl)) rfl ?_
              refine VL.va (op_move rfl (ltn rfl)) rfl ?_
              by_cases c3940 : i3344 > 0
              · rw [if_pos c3940] at h
                obtain rfl : b3939 = true := hb3939.symm.trans (decide_eq_true c3940)
                refine VL.un rfl rfl (ltn rfl) ?_
                refine VL.un rfl rfl (ltn rfl) ?_
                refine VL.un rfl rfl (ltn rfl) ?_
                refine VL.va (op_pick rfl rfl (ltn rfl)) rfl ?_
                refine VL.done ?_
                refine VN.then ?_
                refine VC.cond_t rfl ?_
                refine VC.seq ?_
                refine VC.region ?_
                refine VL.va (op_assign rfl (ltn rfl)) rfl ?_
                refine VL.va (op_assign rfl (ltn rfl)) rfl ?_
                refine VL.va (op_assign rfl (ltn rfl)) rfl ?_
                refine VL.done ?_
                refine VN.then ?_
                refine VC.ret ?_
                refine VR.then ?_
                refine VR.block ?_
                refine VR.then ?_
                refine VR.then ?_
                refine VR.block ?_
                refine VR.then ?_
                simp only [Option.some.injEq, Prod.mk.injEq] at h
                obtain ⟨rfl, rfl, rfl⟩ := h
                exact VR.fn (rs := [.tmp 2, .tmp 3, .tmp 4]) [] [] [] rfl (.tmp rfl (.tmp rfl (.tmp rfl .nil))) ⟨rfl, rfl, rfl⟩ trivial rfl (by decide)
              · rw [if_neg c3940] at h
                obtain rfl : b3939 = false := hb3939.symm.trans (decide_eq_false c3940)
                refine VL.va (op_move rfl (ltn rfl)) rfl ?_
                replace h := Option.bind_eq_some_iff.1 h
                obtain ⟨t3941, hA3942, h⟩ := h
                refine VL.sC (o_call0 FO99 (pack_may.ok i3905 t3941 hA3942) rfl rfl (ltn rfl) (All_of .nil)) rfl ?_
                rintro _ _ _ ⟨rfl, rfl, rfl⟩
                by_cases c3943 : t3941 = true
                · rw [if_pos c3943] at h
                  obtain rfl := c3943
                  refine VL.va (op_not rfl rfl (ltn rfl)) rfl ?_
                  refine VL.va (op_pick rfl rfl (ltn rfl)) rfl ?_
                  refine VL.done ?_
                  refine VN.then ?_
                  refine VC.cond_f rfl ?_
                  refine VC.skip ?_
                  refine VN.then ?_
                  by_cases c3944 : 0 ≤ wrap64 (i3344 + 1)
                  · rw [if_pos c3944] at h
                    by_cases c3945 : (wrap64 (i3344 + 1)) ≤ (a0.size : Int)
                    · rw [if_pos c3945] at h
                      refine VC.join0 (⟨56, [(0, .string a0), (2, .int .i64 i3905), (3, .string (a0.extract ((wrap64 (i3344 + 1)).toNat) a0.size)), (4, .int .i64 0), (5, .int .i64 (Go.bits .or .i64 i3343 (IntKind.i64.wrap (((wrap64 (bt a0 i3344)).tmod 128) * 2 ^ min (wrap64 (7 * i3344)).toNat IntKind.i64.bits)))), (6, .int .i64 i3344), (7, .int .i64 (wrap64 (bt a0 i3344))), (8, .int .i64 i3905), (11, .int .i64 (mn (a0.size : Int) 9)), (12, .int .i64 i3344), (13, .bool true), (14, .int .i64 i3344), (15, .string a0), (16, .int .i64 i3344), (17, .int .u8 (bt a0 i3344)), (18, .int .i64 (wrap64 (bt a0 i3344))), (19, .int .i64 i3343), (20, .int .i64 (wrap64 (bt a0 i3344))), (21, .int .i64 ((wrap64 (bt a0 i3344)).tmod 128)), (22, .int .i64 i3344), (23, .int .i64 (wrap64 (7 * i3344))), (24, .int .i64 (IntKind.i64.wrap (((wrap64 (bt a0 i3344)).tmod 128) * 2 ^ min (wrap64 (7 * i3344)).toNat IntKind.i64.bits))), (25, .int .i64 (Go.bits .or .i64 i3343 (IntKind.i64.wrap (((wrap64 (bt a0 i3344)).tmod 128) * 2 ^ min (wrap64 (7 * i3344)).toNat IntKind.i64.bits)))), (26, .int .i64 (wrap64 (bt a0 i3344))), (27, .bool false), (28, .int .i64 (Go.bits .or .i64 i3343 (IntKind.i64.wrap (((wrap64 (bt a0 i3344)).tmod 128) * 2 ^ min (wrap64 (7 * i3344)).toNat IntKind.i64.bits)))), (29, .int .i64 (IntKind.i64.wrap ((Go.bits .or .i64 i3343 (IntKind.i64.wrap (((wrap64 (bt a0 i3344)).tmod 128) * 2 ^ min (wrap64 (7 * i3344)).toNat IntKind.i64.bits))).tdiv 2))), (30, .int .i64 (Go.bits .or .i64 i3343 (IntKind.i64.wrap (((wrap64 (bt a0 i3344)).tmod 128) * 2 ^ min (wrap64 (7 * i3344)).toNat IntKind.i64.bits)))), (31, .int .i64 ((Go.bits .or .i64 i3343 (IntKind.i64.wrap (((wrap64 (bt a0 i3344)).tmod 128) * 2 ^ min (wrap64 (7 * i3344)).toNat IntKind.i64.bits))).tmod 2)), (32, .bool q3906), (36, .int .i64 (wrap64 (bt a0 i3344))), (37, .bool true), (38, .bool true), (39, .int .i64 i3344), (40, .bool false), (41, .bool false), (42, .bool false), (43, .int .i64 i3905), (44, .bool true), (45, .bool false), (46, .bool false), (47, .int .i64 i3905), (48, .string a0), (49, .int .i64 i3344), (50, .int .i64 (wrap64 (i3344 + 1))), (51, .string (a0.extract ((wrap64 (i3344 + 1)).toNat) a0.size))], [], [], []⟩) (True) ?_ ?_
                      · refine VC.draw ⟨0, [], [], [], []⟩ (by kernel_rfl) rfl (by kernel_rfl) (n := 8) (listed := LB 8 0) ?_
                        refine VA.va (i := 0) (listed' := LB 8 1) rfl (op_move rfl (ltn rfl)) rfl (by kernel_rfl) (by kernel_rfl) (by kernel_rfl) (by kernel_rfl) ⟨trivial, trivial, trivial⟩ (fun _ _ _ h => h) ?_
                        refine VA.va (i := 1) (listed' := LB 8 3) rfl (op_move rfl (ltn rfl)) rfl (by kernel_rfl) (by kernel_rfl) (by kernel_rfl) (by kernel_rfl) ⟨trivial, trivial, trivial⟩ (fun _ _ _ h => h) ?_
                        refine VA.va (i := 2) (listed' := LB 8 7) rfl (op_move rfl (ltn rfl)) rfl (by kernel_rfl) (by kernel_rfl) (by kernel_rfl) (by kernel_rfl) ⟨trivial, trivial, trivial⟩ (fun _ _ _ h => h) ?_
                        refine VA.va (i := 3) (listed' := LB 8 15) rfl (op_ari64 rfl rfl rfl (ltn rfl)) rfl (by kernel_rfl) (by kernel_rfl) (by kernel_rfl) (by kernel_rfl) ⟨trivial, trivial, trivial⟩ (fun _ _ _ h => h) ?_
                        refine VA.va (i := 4) (listed' := LB 8 31) rfl (op_sliceS ((wrap64 (i3344 + 1)).toNat) a0.size Try.underlying9 rfl ⟨⟨_, _, rfl, c3944, rfl⟩, rfl, by omega, by omega⟩ rfl (ltn rfl)) rfl (by kernel_rfl) (by kernel_rfl) (by kernel_rfl) (by kernel_rfl) ⟨trivial, trivial, trivial⟩ (fun _ _ _ h => h) ?_
                        refine VA.va (i := 5) (listed' := LB 8 63) rfl (op_assign rfl (ltn rfl)) rfl (by kernel_rfl) (by kernel_rfl) (by kernel_rfl) (by kernel_rfl) ⟨trivial, trivial, trivial⟩ (fun _ _ _ h => h) ?_
                        refine VA.va (i := 6) (listed' := LB 8 127) rfl (op_assign rfl (ltn rfl)) rfl (by kernel_rfl) (by kernel_rfl) (by kernel_rfl) (by kernel_rfl) ⟨trivial, trivial, trivial⟩ (fun _ _ _ h => h) ?_
                        refine VA.va (i := 7) (listed' := LB 8 255) rfl (op_assign rfl (ltn rfl)) rfl (by kernel_rfl) (by kernel_rfl) (by kernel_rfl) (by kernel_rfl) ⟨trivial, trivial, trivial⟩ (fun _ _ _ h => h) ?_
                        refine VA.done (by kernel_rfl) ?_
                        exact VN.meet0  [] [] trivial ⟨rfl, ⟨rfl, rfl, rfl, rfl, rfl, rfl, rfl, rfl, rfl, rfl, rfl, rfl, rfl, rfl, rfl, rfl, rfl, rfl, rfl, rfl, rfl, rfl, rfl, rfl, rfl, rfl, rfl, rfl, rfl, rfl, rfl, rfl, rfl, rfl, rfl, rfl, rfl, rfl, rfl, rfl, rfl, rfl, rfl, rfl, rfl, rfl, trivial⟩, trivial, rfl, by decide, rfl, by decide⟩
                      intro _
                      refine VC.ret ?_
                      refine VR.block ?_
                      refine VR.then ?_
                      refine VR.then ?_
                      refine VR.block ?_
                      refine VR.then ?_
                      simp only [Option.some.injEq, Prod.mk.injEq] at h
                      obtain ⟨rfl, rfl, rfl⟩ := h
                      exact VR.fn (rs := [.tmp 2, .tmp 3, .tmp 4]) [] [] [] rfl (.tmp rfl (.tmp rfl (.tmp rfl .nil))) ⟨rfl, rfl, rfl⟩ trivial rfl (by decide)
                    · rw [if_neg c3945] at h; cases h
                  · rw [if_neg c3944] at h; cases h
                · rw [if_neg c3943] at h
                  obtain rfl := Bool.eq_false_iff.2 c3943
                  refine VL.va (op_not rfl rfl (ltn rfl)) rfl ?_
                  refine VL.va (op_pick rfl rfl (ltn rfl)) rfl ?_
                  refine VL.done ?_
                  refine VN.then ?_
                  refine VC.cond_t rfl ?_
                  refine VC.seq ?_
                  refine VC.region ?_
                  refine VL.va (op_assign rfl (ltn rfl)) rfl ?_
                  refine VL.va (op_assign rfl (ltn rfl)) rfl ?_
                  refine VL.va (op_assign rfl (ltn rfl)) rfl ?_
                  refine VL.done ?_
                  refine VN.then ?_
                  refine VC.ret ?_
                  refine VR.then ?_
                  refine VR.block ?_
                  refine VR.then ?_
                  refine VR.then ?_
                  refine VR.block ?_
                  refine VR.then ?_
                  simp only [Option.some.injEq, Prod.mk.injEq] at h
                  obtain ⟨rfl, rfl, rfl⟩ := h
                  exact VR.fn (rs := [.tmp 2, .tmp 3, .tmp 4]) [] [] [] rfl (.tmp rfl (.tmp rfl (.tmp rfl .nil))) ⟨rfl, rfl, rfl⟩ trivial rfl (by decide)
            · rw [if_neg c3938] at h
              obtain rfl : b3937 = false := hb3937.symm.trans (beq_eq_false_iff_ne.2 c3938)
              refine VL.un rfl rfl (ltn rfl) ?_
              refine VL.un rfl rfl (ltn rfl) ?_
              refine VL.va (op_pick rfl rfl (ltn rfl)) rfl ?_
              refine VL.va (op_move rfl (ltn rfl)) rfl ?_
              refine VL.va (op_move rfl (ltn rfl)) rfl ?_
              replace h := Option.bind_eq_some_iff.1 h
              obtain ⟨t3946, hA3947, h⟩ := h
              refine VL.sC (o_call0 FO99 (pack_may.ok i3905 t3946 hA3947) rfl rfl (ltn rfl) (All_of .nil)) rfl ?_
              rintro _ _ _ ⟨rfl, rfl, rfl⟩
              by_cases c3948 : t3946 = true
              · rw [if_pos c3948] at h
                obtain rfl := c3948
                refine VL.va (op_not rfl rfl (ltn rfl)) rfl ?_
                refine VL.va (op_pick rfl rfl (ltn rfl)) rfl ?_
                refine VL.done ?_
                refine VN.then ?_
                refine VC.cond_f rfl ?_
                refine VC.skip ?_
                refine VN.then ?_
                by_cases c3949 : 0 ≤ wrap64 (i3344 + 1)
                · rw [if_pos c3949] at h
                  by_cases c3950 : (wrap64 (i3344 + 1)) ≤ (a0.size : Int)
                  · rw [if_pos c3950] at h
                    refine VC.join0 (⟨56, [(0, .string a0), (2, .int .i64 i3905), (3, .string (a0.extract ((wrap64 (i3344 + 1)).toNat) a0.size)), (4, .int .i64 0), (5, .int .i64 (Go.bits .or .i64 i3343 (IntKind.i64.wrap (((wrap64 (bt a0 i3344)).tmod 128) * 2 ^ min (wrap64 (7 * i3344)).toNat IntKind.i64.bits)))), (6, .int .i64 i3344), (7, .int .i64 (wrap64 (bt a0 i3344))), (8, .int .i64 i3905), (11, .int .i64 (mn (a0.size : Int) 9)), (12, .int .i64 i3344), (13, .bool true), (14, .int .i64 i3344), (15, .string a0), (16, .int .i64 i3344), (17, .int .u8 (bt a0 i3344)), (18, .int .i64 (wrap64 (bt a0 i3344))), (19, .int .i64 i3343), (20, .int .i64 (wrap64 (bt a0 i3344))), (21, .int .i64 ((wrap64 (bt a0 i3344)).tmod 128)), (22, .int .i64 i3344), (23, .int .i64 (wrap64 (7 * i3344))), (24, .int .i64 (IntKind.i64.wrap (((wrap64 (bt a0 i3344)).tmod 128) * 2 ^ min (wrap64 (7 * i3344)).toNat IntKind.i64.bits))), (25, .int .i64 (Go.bits .or .i64 i3343 (IntKind.i64.wrap (((wrap64 (bt a0 i3344)).tmod 128) * 2 ^ min (wrap64 (7 * i3344)).toNat IntKind.i64.bits)))), (26, .int .i64 (wrap64 (bt a0 i3344))), (27, .bool false), (28, .int .i64 (Go.bits .or .i64 i3343 (IntKind.i64.wrap (((wrap64 (bt a0 i3344)).tmod 128) * 2 ^ min (wrap64 (7 * i3344)).toNat IntKind.i64.bits)))), (29, .int .i64 (IntKind.i64.wrap ((Go.bits .or .i64 i3343 (IntKind.i64.wrap (((wrap64 (bt a0 i3344)).tmod 128) * 2 ^ min (wrap64 (7 * i3344)).toNat IntKind.i64.bits))).tdiv 2))), (30, .int .i64 (Go.bits .or .i64 i3343 (IntKind.i64.wrap (((wrap64 (bt a0 i3344)).tmod 128) * 2 ^ min (wrap64 (7 * i3344)).toNat IntKind.i64.bits)))), (31, .int .i64 ((Go.bits .or .i64 i3343 (IntKind.i64.wrap (((wrap64 (bt a0 i3344)).tmod 128) * 2 ^ min (wrap64 (7 * i3344)).toNat IntKind.i64.bits))).tmod 2)), (32, .bool q3906), (36, .int .i64 (wrap64 (bt a0 i3344))), (37, .bool false), (38, .bool false), (39, undef), (40, undef), (41, .bool false), (42, .bool false), (43, .int .i64 i3905), (44, .bool true), (45, .bool false), (46, .bool false), (47, .int .i64 i3905), (48, .string a0), (49, .int .i64 i3344), (50, .int .i64 (wrap64 (i3344 + 1))), (51, .string (a0.extract ((wrap64 (i3344 + 1)).toNat) a0.size))], [], [], []⟩) (True) ?_ ?_
                    · refine VC.draw ⟨0, [], [], [], []⟩ (by kernel_rfl) rfl (by kernel_rfl) (n := 8) (listed := LB 8 0) ?_
                      refine VA.va (i := 0) (listed' := LB 8 1) rfl (op_move rfl (ltn rfl)) rfl (by kernel_rfl) (by kernel_rfl) (by kernel_rfl) (by kernel_rfl) ⟨trivial, trivial, trivial⟩ (fun _ _ _ h => h) ?_
                      refine VA.va (i := 1) (listed' := LB 8 3) rfl (op_move rfl (ltn rfl)) rfl (by kernel_rfl) (by kernel_rfl) (by kernel_rfl) (by kernel_rfl) ⟨trivial, trivial, trivial⟩ (fun _ _ _ h => h) ?_
                      refine VA.va (i := 2) (listed' := LB 8 7) rfl (op_move rfl (ltn rfl)) rfl (by kernel_rfl) (by kernel_rfl) (by kernel_rfl) (by kernel_rfl) ⟨trivial, trivial, trivial⟩ (fun _ _ _ h => h) ?_
                      refine VA.va (i := 3) (listed' := LB 8 15) rfl (op_ari64 rfl rfl rfl (ltn rfl)) rfl (by kernel_rfl) (by kernel_rfl) (by kernel_rfl) (by kernel_rfl) ⟨trivial, trivial, trivial⟩ (fun _ _ _ h => h) ?_
                      refine VA.va (i := 4) (listed' := LB 8 31) rfl (op_sliceS ((wrap64 (i3344 + 1)).toNat) a0.size Try.underlying9 rfl ⟨⟨_, _, rfl, c3949, rfl⟩, rfl, by omega, by omega⟩ rfl (ltn rfl)) rfl (by kernel_rfl) (by kernel_rfl) (by kernel_rfl) (by kernel_rfl) ⟨trivial, trivial, trivial⟩ (fun _ _ _ h => h) ?_
                      refine VA.va (i := 5) (listed' := LB 8 63) rfl (op_assign rfl (ltn rfl)) rfl (by kernel_rfl) (by kernel_rfl) (by kernel_rfl) (by kernel_rfl) ⟨trivial, trivial, trivial⟩ (fun _ _ _ h => h) ?_
                      refine VA.va (i := 6) (listed' := LB 8 127) rfl (op_assign rfl (ltn rfl)) rfl (by kernel_rfl) (by kernel_rfl) (by kernel_rfl) (by kernel_rfl) ⟨trivial, trivial, trivial⟩ (fun _ _ _ h => h) ?_
                      refine VA.va (i := 7) (listed' := LB 8 255) rfl (op_assign rfl (ltn rfl)) rfl (by kernel_rfl) (by kernel_rfl) (by kernel_rfl) (by kernel_rfl) ⟨trivial, trivial, trivial⟩ (fun _ _ _ h => h) ?_
                      refine VA.done (by kernel_rfl) ?_
                      exact VN.meet0  [] [] trivial ⟨rfl, ⟨rfl, rfl, rfl, rfl, rfl, rfl, rfl, rfl, rfl, rfl, rfl, rfl, rfl, rfl, rfl, rfl, rfl, rfl, rfl, rfl, rfl, rfl, rfl, rfl, rfl, rfl, rfl, rfl, rfl, rfl, rfl, rfl, rfl, rfl, rfl, rfl, rfl, rfl, rfl, rfl, rfl, rfl, rfl, rfl, rfl, rfl, trivial⟩, trivial, rfl, by decide, rfl, by decide⟩
                    intro _
                    refine VC.ret ?_
                    refine VR.block ?_
                    refine VR.then ?_
                    refine VR.then ?_
                    refine VR.block ?_
                    refine VR.then ?_
                    simp only [Option.some.injEq, Prod.mk.injEq] at h
                    obtain ⟨rfl, rfl, rfl⟩ := h
                    exact VR.fn (rs := [.tmp 2, .tmp 3, .tmp 4]) [] [] [] rfl (.tmp rfl (.tmp rfl (.tmp rfl .nil))) ⟨rfl, rfl, rfl⟩ trivial rfl (by decide)
                  · rw [if_neg c3950] at h; cases h
                · rw [if_neg c3949] at h; cases h
              · rw [if_neg c3948] at h
                obtain rfl := Bool.eq_false_iff.2 c3948
                refine VL.va (op_not rfl rfl (ltn rfl)) rfl ?_
                refine VL.va (op_pick rfl rfl (ltn rfl)) rfl ?_
                refine VL.done ?_
                refine VN.then ?_
                refine VC.cond_t rfl ?_
                refine VC.seq ?_
                refine VC.region ?_
                refine VL.va (op_assign rfl (ltn rfl)) rfl ?_
                refine VL.va (op_assign rfl (ltn rfl)) rfl ?_
                refine VL.va (op_assign rfl (ltn rfl)) rfl ?_
                refine VL.done ?_
                refine VN.then ?_
                refine VC.ret ?_
                refine VR.then ?_
                refine VR.block ?_
                refine VR.then ?_
                refine VR.then ?_
                refine VR.block ?_
                refine VR.then ?_
                simp only [Option.some.injEq, Prod.mk.injEq] at h
                obtain ⟨rfl, rfl, rfl⟩ := h
                exact VR.fn (rs := [.tmp 2, .tmp 3, .tmp 4]) [] [] [] rfl (.tmp rfl (.tmp rfl (.tmp rfl .nil))) ⟨rfl, rfl, rfl⟩ trivial rfl (by decide)
        · rw [if_neg c3804] at h; cases h
      · rw [if_neg c3803] at h; cases h
    · rw [if_neg c3802] at h; cases h
  · rw [if_neg c3652] at h
    obtain rfl : b3646 = false := hb3646.symm.trans (decide_eq_false c3652)
    refine VC.cond_f rfl ?_
    refine VC.exit ?_
    refine VX.then ?_
    refine VX.then ?_
    refine VX.hit ?_
    refine VN.then ?_
    refine VC.seq ?_
    refine VC.seq ?_
    refine VC.region ?_
    refine VL.va (op_move rfl (ltn rfl)) rfl ?_
    refine VL.va (op_lens Try.underlying9 rfl (ltn rfl)) rfl ?_
    refine VL.letter (decide ((a0.size : Int) ≥ 9)) fun b3953 hb3953 => ?_
    refine VL.va (op_cmp rfl rfl (congrArg some hb3953) (ltn rfl)) rfl ?_
    refine VL.done ?_
    refine VN.then ?_
    by_cases c3954 : (a0.size : Int) ≥ 9
    · rw [if_pos c3954] at h
      obtain rfl : b3953 = true := hb3953.symm.trans (decide_eq_true c3954)
      refine VC.cond_t rfl ?_
      refine VC.seq ?_
      refine VC.region ?_
      refine VL.va (op_assign rfl (ltn rfl)) rfl ?_
      refine VL.va (op_assign rfl (ltn rfl)) rfl ?_
      refine VL.va (op_assign rfl (ltn rfl)) rfl ?_
      refine VL.done ?_
      refine VN.then ?_
      refine VC.ret ?_
      refine VR.then ?_
      simp only [Option.some.injEq, Prod.mk.injEq] at h
      obtain ⟨rfl, rfl, rfl⟩ := h
      exact VR.fn (rs := [.tmp 2, .tmp 3, .tmp 4]) [] [] [] rfl (.tmp rfl (.tmp rfl (.tmp rfl .nil))) ⟨rfl, rfl, rfl⟩ trivial rfl (by decide)
    · rw [if_neg c3954] at h
      obtain rfl : b3953 = false := hb3953.symm.trans (decide_eq_false c3954)
      refine VC.cond_f rfl ?_
      refine VC.skip ?_
      refine VN.then ?_
      refine VC.seq ?_
      refine VC.region ?_
      refine VL.va (op_assign rfl (ltn rfl)) rfl ?_
      refine VL.va (op_assign rfl (ltn rfl)) rfl ?_
      refine VL.va (op_assign rfl (ltn rfl)) rfl ?_
      refine VL.done ?_
      refine VN.then ?_
      refine VC.ret ?_
      simp only [Option.some.injEq, Prod.mk.injEq] at h
      obtain ⟨rfl, rfl, rfl⟩ := h
      exact VR.fn (rs := [.tmp 2, .tmp 3, .tmp 4]) [] [] [] rfl (.tmp rfl (.tmp rfl (.tmp rfl .nil))) ⟨rfl, rfl, rfl⟩ trivial rfl (by decide)
set_option maxHeartbeats 4000000 in
set_option maxRecDepth 100000 in
theorem check_Table.ok (k : Nat)   (r1 : List Int) (h : check_Table.f k = some r1) :
    VCalls Try.prog 102 [] [] (fun v G own => v = .agg (ints .u32 r1).toArray ∧ G = [] ∧ own = []) := by
  refine VCalls.intro Try.func102 rfl (len rfl) fun E hC hW hD hU => ?_
  unfold check_Table.f at h
  refine VC.seq ?_
  refine VC.region ?_
  refine VL.sG (o_alloc Z147 ZL147 (ltn rfl)) rfl ?_
  intro g3994
  refine VL.done ?_
  refine VN.then ?_
  refine VC.seq ?_
  refine VC.region ?_
  refine VL.sG (o_alloc Z147 ZL147 (ltn rfl)) rfl ?_
  intro g3995
  refine VL.done ?_
  refine VN.then ?_
  refine VC.seq ?_
  refine VC.seq ?_
  refine VC.region ?_
  refine VL.va (op_move rfl (ltn rfl)) rfl ?_
  refine VL.done ?_
  refine VN.then ?_
  refine VC.block ?_
  refine VC.loop2 (fun (i4364 : Int) (l4365 : List Int) => ⟨25, [(0, .pointer (some ⟨g3994, 0, none⟩)), (1, .pointer (some ⟨g3995, 0, none⟩)), (5, .int .u32 i4364)], [], [(g3995, 147, ints .u32 l4365), (g3994, 147, ints .u32 (List.replicate 256 (0 : Int)))], []⟩) (fun (ml5 : Nat) (i4364 : Int) (l4365 : List Int) => check_Table.l5 k ml5 i4364 l4365 = some r1) k 0 (List.replicate 256 (0 : Int)) [0, 1] [] h ⟨rfl, ⟨rfl, rfl, rfl, trivial⟩, trivial, rfl, by decide, rfl, by decide⟩ (by intros; simp [check_Table.l5]) ?_
  clear h
  intro ml5 ihl5 i4364 l4365 h
  simp only [check_Table.l5] at h
  refine VC.seq ?_
  refine VC.region ?_
  refine VL.letter (decide (i4364 < 256)) fun b4461 hb4461 => ?_
  refine VL.va (op_cmp rfl rfl (congrArg some hb4461) (ltn rfl)) rfl ?_
  refine VL.done ?_
  refine VN.then ?_
  refine VC.seq ?_
  by_cases c4465 : i4364 < 256
  · rw [if_pos c4465] at h
    obtain rfl : b4461 = true := hb4461.symm.trans (decide_eq_true c4465)
    refine VC.cond_t rfl ?_
    refine VC.skip ?_
    refine VN.then ?_
    refine VC.seq ?_
    refine VC.block ?_
    refine VC.seq ?_
    refine VC.region ?_
    refine VL.va (op_move rfl (ltn rfl)) rfl ?_
    refine VL.va (op_assign rfl (ltn rfl)) rfl ?_
    refine VL.done ?_
    refine VN.then ?_
    refine VC.seq ?_
    refine VC.region ?_
    refine VL.va (op_move rfl (ltn rfl)) rfl ?_
    refine VL.va (op_assign rfl (ltn rfl)) rfl ?_
    refine VL.done ?_
    refine VN.then ?_
    refine VC.seq ?_
    refine VC.seq ?_
    refine VC.region ?_
    refine VL.va (op_move rfl (ltn rfl)) rfl ?_
    refine VL.done ?_
    refine VN.then ?_
    refine VC.block ?_
    refine VC.loop2 (fun (i4536 : Int) (i4537 : Int) => ⟨25, [(0, .pointer (some ⟨g3994, 0, none⟩)), (1, .pointer (some ⟨g3995, 0, none⟩)), (2, .int .u32 i4364), (3, .int .u32 i4536), (5, .int .u32 i4364), (6, .bool true), (7, .int .u32 i4364), (8, .int .u32 i4364), (9, .int .i64 i4537)], [], [(g3995, 147, ints .u32 l4365), (g3994, 147, ints .u32 (List.replicate 256 (0 : Int)))], []⟩) (fun (ml9 : Nat) (i4536 : Int) (i4537 : Int) => check_Table.l9 k (check_Table.l5 k ml5) i4364 l4365 ml9 i4536 i4537 = some r1) k i4364 0 [0, 1] [] h ⟨rfl, ⟨rfl, rfl, rfl, rfl, rfl, rfl, rfl, rfl, rfl, trivial⟩, trivial, rfl, by decide, rfl, by decide⟩ (by intros; simp [check_Table.l9]) ?_
    clear h
    intro ml9 ihl9 i4536 i4537 h
    simp only [check_Table.l9] at h
    refine VC.seq ?_
    refine VC.region ?_
    refine VL.letter (decide (i4537 < 8)) fun b4545 hb4545 => ?_
    refine VL.va (op_cmp rfl rfl (congrArg some hb4545) (ltn rfl)) rfl ?_
    refine VL.done ?_
    refine VN.then ?_
    refine VC.seq ?_
    by_cases c4550 : i4537 < 8
    · rw [if_pos c4550] at h
      obtain rfl : b4545 = true := hb4545.symm.trans (decide_eq_true c4550)
      refine VC.cond_t rfl ?_
      refine VC.skip ?_
      refine VN.then ?_
      refine VC.seq ?_
      refine VC.block ?_
      refine VC.seq ?_
      refine VC.region ?_
      refine VL.va (op_move rfl (ltn rfl)) rfl ?_
      refine VL.va (op_bits rfl rfl rfl (ltn rfl)) rfl ?_
      refine VL.va (op_assign rfl (ltn rfl)) rfl ?_
      refine VL.done ?_
      refine VN.then ?_
      refine VC.seq ?_
      refine VC.region ?_
      refine VL.va (op_move rfl (ltn rfl)) rfl ?_
      refine VL.va (op_shr rfl rfl (by decide) rfl (ltn rfl)) rfl ?_
      refine VL.va (op_assign rfl (ltn rfl)) rfl ?_
      refine VL.done ?_
      refine VN.then ?_
      refine VC.seq ?_
      refine VC.region ?_
      refine VL.va (op_move rfl (ltn rfl)) rfl ?_
      refine VL.letter (((Go.bits .and .u32 i4536 1) == 1)) fun b4553 hb4553 => ?_
      refine VL.va (op_cmp rfl rfl (congrArg some hb4553) (ltn rfl)) rfl ?_
      refine VL.done ?_
      refine VN.then ?_
      by_cases c4554 : (Go.bits .and .u32 i4536 1) = 1
      · rw [if_pos c4554] at h
        obtain rfl : b4553 = true := hb4553.symm.trans (beq_iff_eq.2 c4554)
        refine VC.cond_t rfl ?_
        refine VC.region ?_
        refine VL.va (op_move rfl (ltn rfl)) rfl ?_
        refine VL.va (op_bits rfl rfl rfl (ltn rfl)) rfl ?_
        refine VL.va (op_assign rfl (ltn rfl)) rfl ?_
        refine VL.done ?_
        refine VN.block ?_
        refine VN.then ?_
        refine VC.region ?_
        refine VL.va (op_ari64 rfl rfl rfl (ltn rfl)) rfl ?_
        refine VL.va (op_move rfl (ltn rfl)) rfl ?_
        refine VL.done ?_
        refine VN.again [0, 1] [] (ihl9 (Go.bits .xor .u32 (i4536.fdiv (2 ^ min (1 : Int).toNat IntKind.u32.bits)) 2197175160) (wrap64 (i4537 + 1)) h) ⟨rfl, ⟨rfl, rfl, rfl, rfl, rfl, rfl, rfl, rfl, rfl, trivial⟩, trivial, rfl, by decide, rfl, by decide⟩
      · rw [if_neg c4554] at h
        obtain rfl : b4553 = false := hb4553.symm.trans (beq_eq_false_iff_ne.2 c4554)
        refine VC.cond_f rfl ?_
        refine VC.skip ?_
        refine VN.block ?_
        refine VN.then ?_
        refine VC.region ?_
        refine VL.va (op_ari64 rfl rfl rfl (ltn rfl)) rfl ?_
        refine VL.va (op_move rfl (ltn rfl)) rfl ?_
        refine VL.done ?_
        refine VN.again [0, 1] [] (ihl9 (i4536.fdiv (2 ^ min (1 : Int).toNat IntKind.u32.bits)) (wrap64 (i4537 + 1)) h) ⟨rfl, ⟨rfl, rfl, rfl, rfl, rfl, rfl, rfl, rfl, rfl, trivial⟩, trivial, rfl, by decide, rfl, by decide⟩
    · rw [if_neg c4550] at h
      obtain rfl : b4545 = false := hb4545.symm.trans (decide_eq_false c4550)
      refine VC.cond_f rfl ?_
      refine VC.exit ?_
      refine VX.then ?_
      refine VX.then ?_
      refine VX.hit ?_
      refine VN.then ?_
      refine VC.region ?_
      refine VL.va (op_move rfl (ltn rfl)) rfl ?_
      refine VL.va (op_move rfl (ltn rfl)) rfl ?_
      by_cases c4555 : 0 ≤ i4364
      · rw [if_pos c4555] at h
        by_cases c4556 : i4364 < 256
        · rw [if_pos c4556] at h
          refine VL.va (op_indexAddrA Try.underlying147 TI108 rfl rfl c4555 c4556 (ltn rfl)) rfl ?_
          by_cases c4557 : i4364.toNat < l4365.length
          · rw [if_pos c4557] at h
            refine VL.step1 (o_storeE 0 rfl rfl rfl TI108 c4557) rfl ?_
            refine VL.done ?_
            refine VN.block ?_
            refine VN.then ?_
            refine VC.region ?_
            refine VL.va (op_ari rfl rfl rfl (ltn rfl)) rfl ?_
            refine VL.va (op_move rfl (ltn rfl)) rfl ?_
            refine VL.done ?_
            refine VN.again [0, 1] [] (ihl5 (IntKind.u32.wrap (i4364 + 1)) (l4365.set i4364.toNat i4536) h) ⟨rfl, ⟨rfl, rfl, rfl, trivial⟩, trivial, rfl, by decide, rfl, by decide⟩
          · rw [if_neg c4557] at h; cases h
        · rw [if_neg c4556] at h; cases h
      · rw [if_neg c4555] at h; cases h
  · rw [if_neg c4465] at h
    obtain rfl : b4461 = false := hb4461.symm.trans (decide_eq_false c4465)
    refine VC.cond_f rfl ?_
    refine VC.exit ?_
    refine VX.then ?_
    refine VX.then ?_
    refine VX.hit ?_
    refine VN.then ?_
    refine VC.seq ?_
    refine VC.region ?_
    by_cases c4558 : l4365.length = 256
    · rw [if_pos c4558] at h
      refine VL.va (op_loadA 0 rfl rfl TI147 c4558 (ltn rfl)) rfl ?_
      by_cases c4559 : (List.replicate 256 (0 : Int)).length = 256
      · rw [if_pos c4559] at h
        refine VL.step1 (o_storeA 1 rfl rfl rfl TI147 c4558 c4559) rfl ?_
        refine VL.done ?_
        refine VN.then ?_
        refine VC.ret ?_
        obtain rfl := Option.some.inj h
        exact VR.fn (rs := [.cell 0 147]) [] [] [] rfl (.cellA 1 rfl rfl TI147 c4558 .nil) ⟨rfl, rfl, rfl⟩ trivial rfl (by decide)
      · rw [if_neg c4559] at h; cases h
    · rw [if_neg c4558] at h; cases h
set_option maxHeartbeats 4000000 in
set_option maxRecDepth 100000 in
theorem check_On.ok (k : Nat) (a0 : Int) (a1 : ByteArray)  (r1 : Int) (h : check_On.f k a0 a1 = some r1) :
    VCalls Try.prog 100 [.int .u32 a0, .string a1] [] (fun v G own => v = .int .u32 r1 ∧ G = [] ∧ own = []) := by
  refine VCalls.intro Try.func100 rfl (len rfl) fun E hC hW hD hU => ?_
  unfold check_On.f at h
  refine VC.seq ?_
  refine VC.region ?_
  refine VL.va (op_assign rfl (ltn rfl)) rfl ?_
  refine VL.done ?_
  refine VN.then ?_
  refine VC.seq ?_
  refine VC.region ?_
  replace h := Option.bind_eq_some_iff.1 h
  obtain ⟨r4560, hA4561, h⟩ := h
  refine VL.sC (o_call0 FO102 (check_Table.ok k r4560 hA4561) rfl rfl (ltn rfl) (All_of .nil)) rfl ?_
  rintro _ _ _ ⟨rfl, rfl, rfl⟩
  refine VL.sG (o_alloc Z147 ZL147 (ltn rfl)) rfl ?_
  intro g4562
  by_cases c4563 : r4560.length = 256
  · rw [if_pos c4563] at h
    by_cases c4564 : (List.replicate 256 (0 : Int)).length = 256
    · rw [if_pos c4564] at h
      refine VL.step1 (o_storeA 0 rfl rfl rfl TI147 c4563 c4564) rfl ?_
      refine VL.done ?_
      refine VN.then ?_
      refine VC.seq ?_
      refine VC.region ?_
      refine VL.va (op_move rfl (ltn rfl)) rfl ?_
      refine VL.va (op_bits rfl rfl rfl (ltn rfl)) rfl ?_
      refine VL.va (op_assign rfl (ltn rfl)) rfl ?_
      refine VL.done ?_
      refine VN.then ?_
      refine VC.seq ?_
      refine VC.seq ?_
      refine VC.region ?_
      refine VL.va (op_move rfl (ltn rfl)) rfl ?_
      refine VL.va (op_lens Try.underlying9 rfl (ltn rfl)) rfl ?_
      refine VL.va (op_move rfl (ltn rfl)) rfl ?_
      refine VL.done ?_
      refine VN.then ?_
      refine VC.block ?_
      refine VC.loop2 (fun (i4597 : Int) (i4598 : Int) => ⟨29, [(0, .int .u32 i4597), (1, .string a1), (4, .int .u32 0), (5, .pointer (some ⟨g4562, 0, none⟩)), (11, .int .i64 (a1.size : Int)), (12, .int .i64 i4598)], [], [(g4562, 147, ints .u32 r4560)], []⟩) (fun (ml1 : Nat) (i4597 : Int) (i4598 : Int) => check_On.l1 k a1 r4560 ml1 i4597 i4598 = some r1) k (Go.bits .xor .u32 a0 4294967295) 0 [0] [] h ⟨rfl, ⟨rfl, rfl, rfl, rfl, rfl, rfl, trivial⟩, trivial, rfl, by decide, rfl, by decide⟩ (by intros; simp [check_On.l1]) ?_
      clear h
      intro ml1 ihl1 i4597 i4598 h
      simp only [check_On.l1] at h
      refine VC.seq ?_
      refine VC.region ?_
      refine VL.letter (decide (i4598 < (a1.size : Int))) fun b4607 hb4607 => ?_
      refine VL.va (op_cmp rfl rfl (congrArg some hb4607) (ltn rfl)) rfl ?_
      refine VL.done ?_
      refine VN.then ?_
      refine VC.seq ?_
      by_cases c4609 : i4598 < (a1.size : Int)
      · rw [if_pos c4609] at h
        obtain rfl : b4607 = true := hb4607.symm.trans (decide_eq_true c4609)
        refine VC.cond_t rfl ?_
        refine VC.skip ?_
        refine VN.then ?_
        refine VC.seq ?_
        refine VC.block ?_
        refine VC.seq ?_
        refine VC.region ?_
        refine VL.va (op_move rfl (ltn rfl)) rfl ?_
        refine VL.va (op_assign rfl (ltn rfl)) rfl ?_
        refine VL.done ?_
        refine VN.then ?_
        refine VC.region ?_
        refine VL.va (op_move rfl (ltn rfl)) rfl ?_
        refine VL.va (op_shr rfl rfl (by decide) rfl (ltn rfl)) rfl ?_
        refine VL.va (op_move rfl (ltn rfl)) rfl ?_
        refine VL.va (op_conv Try.underlying108 Try.underlying5 rfl rfl (ltn rfl)) rfl ?_
        refine VL.va (op_move rfl (ltn rfl)) rfl ?_
        refine VL.va (op_move rfl (ltn rfl)) rfl ?_
        by_cases c4610 : 0 ≤ i4598
        · rw [if_pos c4610] at h
          by_cases c4611 : i4598 < (a1.size : Int)
          · rw [if_pos c4611] at h
            refine VL.va (op_indexS Try.underlying9 rfl rfl c4610 c4611 rfl (ltn rfl)) rfl ?_
            refine VL.va (op_bits rfl rfl rfl (ltn rfl)) rfl ?_
            by_cases c4612 : 0 ≤ Go.bits .xor .u8 (IntKind.u8.wrap i4597) (bt a1 i4598)
            · rw [if_pos c4612] at h
              by_cases c4613 : (Go.bits .xor .u8 (IntKind.u8.wrap i4597) (bt a1 i4598)) < 256
              · rw [if_pos c4613] at h
                refine VL.va (op_indexAddrA Try.underlying147 TI108 rfl rfl c4612 c4613 (ltn rfl)) rfl ?_
                replace h := Option.bind_eq_some_iff.1 h
                obtain ⟨t4614, ht4614, h⟩ := h
                refine VL.va (op_loadE 0 rfl rfl TI108 ht4614 (ltn rfl)) rfl ?_
                refine VL.va (op_bits rfl rfl rfl (ltn rfl)) rfl ?_
                refine VL.va (op_assign rfl (ltn rfl)) rfl ?_
                refine VL.done ?_
                refine VN.block ?_
                refine VN.then ?_
                refine VC.region ?_
                refine VL.va (op_ari64 rfl rfl rfl (ltn rfl)) rfl ?_
                refine VL.va (op_move rfl (ltn rfl)) rfl ?_
                refine VL.done ?_
                refine VN.again [0] [] (ihl1 (Go.bits .xor .u32 (i4597.fdiv (2 ^ min (8 : Int).toNat IntKind.u32.bits)) t4614) (wrap64 (i4598 + 1)) h) ⟨rfl, ⟨rfl, rfl, rfl, rfl, rfl, rfl, trivial⟩, trivial, rfl, by decide, rfl, by decide⟩
              · rw [if_neg c4613] at h; cases h
            · rw [if_neg c4612] at h; cases h
          · rw [if_neg c4611] at h; cases h
        · rw [if_neg c4610] at h; cases h
      · rw [if_neg c4609] at h
        obtain rfl : b4607 = false := hb4607.symm.trans (decide_eq_false c4609)
        refine VC.cond_f rfl ?_
        refine VC.exit ?_
        refine VX.then ?_
        refine VX.then ?_
        refine VX.hit ?_
        refine VN.then ?_
        refine VC.seq ?_
        refine VC.region ?_
        refine VL.va (op_move rfl (ltn rfl)) rfl ?_
        refine VL.va (op_bits rfl rfl rfl (ltn rfl)) rfl ?_
        refine VL.va (op_assign rfl (ltn rfl)) rfl ?_
        refine VL.done ?_
        refine VN.then ?_
        refine VC.ret ?_
        obtain rfl := Option.some.inj h
        exact VR.fn (rs := [.tmp 4]) [] [] [] rfl (.tmp rfl .nil) ⟨rfl, rfl, rfl⟩ trivial rfl (by decide)
    · rw [if_neg c4564] at h; cases h
  · rw [if_neg c4563] at h; cases h
set_option maxHeartbeats 4000000 in
set_option maxRecDepth 100000 in
theorem check_Of.ok (k : Nat) (a0 : ByteArray)  (r1 : Int) (h : check_Of.f k a0 = some r1) :
    VCalls Try.prog 90 [.string a0] [] (fun v G own => v = .int .u32 r1 ∧ G = [] ∧ own = []) := by
  refine VCalls.intro Try.func90 rfl (len rfl) fun E hC hW hD hU => ?_
  unfold check_Of.f at h
  refine VC.seq ?_
  refine VC.region ?_
  refine VL.va (op_assign rfl (ltn rfl)) rfl ?_
  refine VL.done ?_
  refine VN.then ?_
  refine VC.seq ?_
  refine VC.region ?_
  refine VL.va (op_move rfl (ltn rfl)) rfl ?_
  replace h := Option.bind_eq_some_iff.1 h
  obtain ⟨t4615, hA4616, h⟩ := h
  refine VL.sC (o_call0 FO100 (check_On.ok k 0 a0 t4615 hA4616) rfl rfl (ltn rfl) (All_of .nil)) rfl ?_
  rintro _ _ _ ⟨rfl, rfl, rfl⟩
  refine VL.va (op_assign rfl (ltn rfl)) rfl ?_
  refine VL.done ?_
  refine VN.then ?_
  refine VC.ret ?_
  obtain rfl := Option.some.inj h
  exact VR.fn (rs := [.tmp 2]) [] [] [] rfl (.tmp rfl .nil) ⟨rfl, rfl, rfl⟩ trivial rfl (by decide)
set_option maxHeartbeats 4000000 in
set_option maxRecDepth 100000 in
theorem check_Bytes.ok (k : Nat) (a0 : Int)  (r1 : ByteArray) (h : check_Bytes.f k a0 = some r1) :
    VCalls Try.prog 89 [.int .u32 a0] [] (fun v G own => v = .string r1 ∧ G = [] ∧ own = []) := by
  refine VCalls.intro Try.func89 rfl (len rfl) fun E hC hW hD hU => ?_
  unfold check_Bytes.f at h
  refine VC.seq ?_
  refine VC.region ?_
  refine VL.va (op_assign rfl (ltn rfl)) rfl ?_
  refine VL.done ?_
  refine VN.then ?_
  refine VC.seq ?_
  refine VC.region ?_
  refine VL.sG (o_alloc Z145 ZL145 (ltn rfl)) rfl ?_
  intro g4619
  refine VL.done ?_
  refine VN.then ?_
  refine VC.seq ?_
  refine VC.seq ?_
  refine VC.region ?_
  refine VL.va (op_move rfl (ltn rfl)) rfl ?_
  refine VL.done ?_
  refine VN.then ?_
  refine VC.block ?_
  refine VC.loop2 (fun (i4642 : Int) (l4643 : List Int) => ⟨18, [(0, .int .u32 a0), (2, .string (⟨#[]⟩ : ByteArray)), (3, .pointer (some ⟨g4619, 0, none⟩)), (5, .int .i64 i4642)], [], [(g4619, 145, ints .u8 l4643)], []⟩) (fun (ml1 : Nat) (i4642 : Int) (l4643 : List Int) => check_Bytes.l1 k a0 ml1 i4642 l4643 = some r1) k 0 (List.replicate 4 (0 : Int)) [0] [] h ⟨rfl, ⟨rfl, rfl, rfl, rfl, trivial⟩, trivial, rfl, by decide, rfl, by decide⟩ (by intros; simp [check_Bytes.l1]) ?_
  clear h
  intro ml1 ihl1 i4642 l4643 h
  simp only [check_Bytes.l1] at h
  refine VC.seq ?_
  refine VC.region ?_
  refine VL.letter (decide (i4642 < 4)) fun b4651 hb4651 => ?_
  refine VL.va (op_cmp rfl rfl (congrArg some hb4651) (ltn rfl)) rfl ?_
  refine VL.done ?_
  refine VN.then ?_
  refine VC.seq ?_
  by_cases c4654 : i4642 < 4
  · rw [if_pos c4654] at h
    obtain rfl : b4651 = true := hb4651.symm.trans (decide_eq_true c4654)
    refine VC.cond_t rfl ?_
    refine VC.skip ?_
    refine VN.then ?_
    refine VC.seq ?_
    refine VC.block ?_
    refine VC.seq ?_
    refine VC.region ?_
    refine VL.va (op_move rfl (ltn rfl)) rfl ?_
    refine VL.va (op_assign rfl (ltn rfl)) rfl ?_
    refine VL.done ?_
    refine VN.then ?_
    refine VC.region ?_
    refine VL.va (op_move rfl (ltn rfl)) rfl ?_
    refine VL.va (op_move rfl (ltn rfl)) rfl ?_
    refine VL.va (op_move rfl (ltn rfl)) rfl ?_
    refine VL.va (op_ari64 rfl rfl rfl (ltn rfl)) rfl ?_
    by_cases c4655 : 0 ≤ wrap64 (8 * i4642)
    · rw [if_pos c4655] at h
      refine VL.va (op_shr rfl rfl c4655 rfl (ltn rfl)) rfl ?_
      refine VL.va (op_conv Try.underlying108 Try.underlying5 rfl rfl (ltn rfl)) rfl ?_
      by_cases c4656 : 0 ≤ i4642
      · rw [if_pos c4656] at h
        by_cases c4657 : i4642 < 4
        · rw [if_pos c4657] at h
          refine VL.va (op_indexAddrA Try.underlying145 TI5 rfl rfl c4656 c4657 (ltn rfl)) rfl ?_
          by_cases c4658 : i4642.toNat < l4643.length
          · rw [if_pos c4658] at h
            refine VL.step1 (o_storeE 0 rfl rfl rfl TI5 c4658) rfl ?_
            refine VL.done ?_
            refine VN.block ?_
            refine VN.then ?_
            refine VC.region ?_
            refine VL.va (op_ari64 rfl rfl rfl (ltn rfl)) rfl ?_
            refine VL.va (op_move rfl (ltn rfl)) rfl ?_
            refine VL.done ?_
            refine VN.again [0] [] (ihl1 (wrap64 (i4642 + 1)) (l4643.set i4642.toNat (IntKind.u8.wrap (a0.fdiv (2 ^ min (wrap64 (8 * i4642)).toNat IntKind.u32.bits)))) h) ⟨rfl, ⟨rfl, rfl, rfl, rfl, trivial⟩, trivial, rfl, by decide, rfl, by decide⟩
          · rw [if_neg c4658] at h; cases h
        · rw [if_neg c4657] at h; cases h
      · rw [if_neg c4656] at h; cases h
    · rw [if_neg c4655] at h; cases h
  · rw [if_neg c4654] at h
    obtain rfl : b4651 = false := hb4651.symm.trans (decide_eq_false c4654)
    refine VC.cond_f rfl ?_
    refine VC.exit ?_
    refine VX.then ?_
    refine VX.then ?_
    refine VX.hit ?_
    refine VN.then ?_
    refine VC.seq ?_
    refine VC.region ?_
    refine VL.va (op_sliceB Try.underlying145 TI5 rfl (ltn rfl)) rfl ?_
    by_cases c4659 : l4643.length = 4
    · rw [if_pos c4659] at h
      refine VL.va (op_bytesStrB0 0 Try.underlying41 Try.underlying9 Try.underlying5 rfl rfl c4659 (ltn rfl)) rfl ?_
      refine VL.va (op_assign rfl (ltn rfl)) rfl ?_
      refine VL.done ?_
      refine VN.then ?_
      refine VC.ret ?_
      obtain rfl := Option.some.inj h
      exact VR.fn (rs := [.tmp 2]) [] [] [] rfl (.tmp rfl .nil) ⟨rfl, rfl, rfl⟩ trivial rfl (by decide)
    · rw [if_neg c4659] at h; cases h

end Go.Proofs.Ytipeglbeongfmaa.PJournalUnused
