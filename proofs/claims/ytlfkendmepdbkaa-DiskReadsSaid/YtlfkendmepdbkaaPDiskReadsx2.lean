/- Written by a program of this repo: what the program's functions do, each as a Lean function, shown of the loaded code; or a statement's row over that; no condition of its own. -/
import Derived.Test.YtlfkendmepdbkaaPDiskReadsx1
namespace Go.Proofs.Ytlfkendmepdbkaa.PDiskReads
open Go Go.RowKit Go.Proofs.YtlfkendmepdbkaaV
set_option linter.unusedVariables false
set_option linter.unusedSimpArgs false

set_option maxHeartbeats 4000000 in
set_option maxRecDepth 100000 in
theorem disk_Put.ok (k : Nat) (l0_0 : List ByteArray) (l0_1 : List S32) (a1 : Int) (a2 : ByteArray) (v0_0 : Value) (v0_1 : Value) (r1 : List ByteArray) (r2 : List S32) (r3 : Int) (h : disk_Put.f k l0_0 l0_1 a1 a2 = some (r1, r2, r3)) :
    VCalls Try.prog 10 [.agg #[v0_0, v0_1], .int .i64 a1, .string a2] [.row v0_0 1 (l0_0.map enc_str), .row v0_1 2 (l0_1.map enc32)] (fun v G own => ∃ w0 w1 : Value, v = .tuple #[.agg #[w0, w1], .int .i64 r3] ∧ G = [.row w0 1 (r1.map enc_str), .row w1 2 (r2.map enc32)] ∧ own = []) := by
  refine VCalls.intro Try.func10 rfl (len rfl) fun E hC hW hD hU => ?_
  unfold disk_Put.f at h
  refine VC.seq ?_
  refine VC.region ?_
  refine VL.sG (o_box rfl (.agg (.f 0 rfl (.f 1 rfl .nil))) (ltn rfl)) rfl ?_
  intro g654
  refine VL.sG (o_alloc Z25 ZL25 (ltn rfl)) rfl ?_
  intro g655
  refine VL.va (op_assign rfl (ltn rfl)) rfl ?_
  refine VL.done ?_
  refine VN.then ?_
  refine VC.seq ?_
  refine VC.block ?_
  refine VC.seq ?_
  refine VC.region ?_
  refine VL.va (op_load 1 2 rfl rfl TI25 rfl (fun h => absurd h (by decide)) (ltn rfl)) rfl ?_
  replace h := Option.bind_eq_some_iff.1 h
  obtain ⟨t686, hA687, h⟩ := h
  refine VL.sC (o_call0 FO16 (disk_Right.ok k l0_0 l0_1 v0_0 v0_1 t686 hA687) rfl rfl (ltn rfl) (All_of (.cons (List.mem_of_getElem? (i := 0) rfl) (.cons (List.mem_of_getElem? (i := 1) rfl) .nil)))) rfl ?_
  rintro _ _ _ ⟨rfl, rfl, rfl⟩
  by_cases c688 : t686 = true
  · rw [if_pos c688] at h
    obtain rfl := c688
    refine VL.va (op_not rfl rfl (ltn rfl)) rfl ?_
    refine VL.va (op_assign rfl (ltn rfl)) rfl ?_
    refine VL.done ?_
    refine VN.then ?_
    refine VC.cond_f rfl ?_
    refine VC.seq ?_
    refine VC.region ?_
    refine VL.va (op_move rfl (ltn rfl)) rfl ?_
    refine VL.letter (decide (a1 < 0)) fun b692 hb692 => ?_
    refine VL.va (op_cmp rfl rfl (congrArg some hb692) (ltn rfl)) rfl ?_
    refine VL.va (op_move rfl (ltn rfl)) rfl ?_
    by_cases c693 : a1 < 0
    · rw [if_pos c693] at h
      obtain rfl : b692 = true := hb692.symm.trans (decide_eq_true c693)
      refine VL.un rfl rfl (ltn rfl) ?_
      refine VL.un rfl rfl (ltn rfl) ?_
      refine VL.un rfl rfl (ltn rfl) ?_
      refine VL.un rfl rfl (ltn rfl) ?_
      refine VL.un rfl rfl (ltn rfl) ?_
      refine VL.va (op_pick rfl rfl (ltn rfl)) rfl ?_
      refine VL.va (op_assign rfl (ltn rfl)) rfl ?_
      refine VL.done ?_
      refine VN.then ?_
      refine VC.cond_t rfl ?_
      refine VC.seq ?_
      refine VC.region ?_
      refine VL.va (op_build (vals := []) (vcs := []) (cells := [.slice none 0 0, .slice none 0 0]) SI25 rfl .nil (by kernel_rfl) (ltn rfl)) rfl ?_
      refine VL.step1 (o_store 0 2 rfl rfl rfl TI25 (.agg (.of rfl)) rfl (len rfl)) rfl ?_
      refine VL.va (op_assign rfl (ltn rfl)) rfl ?_
      refine VL.done ?_
      refine VN.then ?_
      refine VC.ret ?_
      refine VR.block ?_
      refine VR.then ?_
      simp only [Option.some.injEq, Prod.mk.injEq] at h
      obtain ⟨rfl, rfl, rfl⟩ := h
      refine VR.nilFact' 1 ?_
      refine VR.nilFact' 2 ?_
      exact VR.fn (rs := [.cell 6 25, .tmp 7]) [.row (.slice none 0 0) 1 (([] : List ByteArray).map enc_str), .row (.slice none 0 0) 2 (([] : List S32).map enc32)] [] [] rfl (.cell 0 rfl rfl TI25 (fun h => absurd h (by decide)) (.tmp rfl .nil)) ⟨(.slice none 0 0), (.slice none 0 0), rfl, rfl, rfl⟩ ⟨⟨1, rfl⟩, ⟨0, rfl⟩, trivial⟩ rfl (by decide)
    · rw [if_neg c693] at h
      obtain rfl : b692 = false := hb692.symm.trans (decide_eq_false c693)
      refine VL.va (op_move rfl (ltn rfl)) rfl ?_
      refine VL.va (op_fieldAddr FI25_0 rfl (add_at _ _ _) (ltn rfl)) rfl ?_
      refine VL.va (op_load 1 1 rfl rfl TI22 rfl (by decide) (ltn rfl)) rfl ?_
      refine VL.va (op_len (m := l0_0.length) 0 lenm Try.underlying22 rfl rfl (ltn rfl)) rfl ?_
      refine VL.letter (decide (a1 ≥ (l0_0.length : Int))) fun b696 hb696 => ?_
      refine VL.va (op_cmp rfl rfl (congrArg some hb696) (ltn rfl)) rfl ?_
      refine VL.va (op_pick rfl rfl (ltn rfl)) rfl ?_
      refine VL.va (op_assign rfl (ltn rfl)) rfl ?_
      refine VL.done ?_
      refine VN.then ?_
      by_cases c697 : a1 ≥ (l0_0.length : Int)
      · rw [if_pos c697] at h
        obtain rfl : b696 = true := hb696.symm.trans (decide_eq_true c697)
        refine VC.cond_t rfl ?_
        refine VC.seq ?_
        refine VC.region ?_
        refine VL.va (op_build (vals := []) (vcs := []) (cells := [.slice none 0 0, .slice none 0 0]) SI25 rfl .nil (by kernel_rfl) (ltn rfl)) rfl ?_
        refine VL.step1 (o_store 0 2 rfl rfl rfl TI25 (.agg (.of rfl)) rfl (len rfl)) rfl ?_
        refine VL.va (op_assign rfl (ltn rfl)) rfl ?_
        refine VL.done ?_
        refine VN.then ?_
        refine VC.ret ?_
        refine VR.block ?_
        refine VR.then ?_
        simp only [Option.some.injEq, Prod.mk.injEq] at h
        obtain ⟨rfl, rfl, rfl⟩ := h
        refine VR.nilFact' 1 ?_
        refine VR.nilFact' 2 ?_
        exact VR.fn (rs := [.cell 6 25, .tmp 7]) [.row (.slice none 0 0) 1 (([] : List ByteArray).map enc_str), .row (.slice none 0 0) 2 (([] : List S32).map enc32)] [] [] rfl (.cell 0 rfl rfl TI25 (fun h => absurd h (by decide)) (.tmp rfl .nil)) ⟨(.slice none 0 0), (.slice none 0 0), rfl, rfl, rfl⟩ ⟨⟨1, rfl⟩, ⟨0, rfl⟩, trivial⟩ rfl (by decide)
      · rw [if_neg c697] at h
        obtain rfl : b696 = false := hb696.symm.trans (decide_eq_false c697)
        refine VC.cond_f rfl ?_
        refine VC.seq ?_
        refine VC.region ?_
        refine VL.va (op_move rfl (ltn rfl)) rfl ?_
        refine VL.va (op_lens Try.underlying9 rfl (ltn rfl)) rfl ?_
        refine VL.letter (((a2.size : Int) != 64)) fun b700 hb700 => ?_
        refine VL.va (op_cmp rfl rfl (congrArg some hb700) (ltn rfl)) rfl ?_
        refine VL.va (op_assign rfl (ltn rfl)) rfl ?_
        refine VL.done ?_
        refine VN.then ?_
        by_cases c701 : (a2.size : Int) = 64
        · rw [if_pos c701] at h
          obtain rfl : b700 = false := hb700.symm.trans (bne_eq_false_iff_eq.2 c701)
          refine VC.cond_f rfl ?_
          refine VC.seq ?_
          refine VC.region ?_
          refine VL.va (op_fieldAddr FI25_1 rfl (add_at _ _ _) (ltn rfl)) rfl ?_
          refine VL.va (op_load 1 1 rfl rfl TI23 rfl (by decide) (ltn rfl)) rfl ?_
          refine VL.va (op_len (m := l0_1.length) 1 lenm Try.underlying23 rfl rfl (ltn rfl)) rfl ?_
          refine VL.letter (((l0_1.length : Int) == 64)) fun b702 hb702 => ?_
          refine VL.va (op_cmp rfl rfl (congrArg some hb702) (ltn rfl)) rfl ?_
          refine VL.va (op_assign rfl (ltn rfl)) rfl ?_
          refine VL.done ?_
          refine VN.then ?_
          by_cases c703 : (l0_1.length : Int) = 64
          · rw [if_pos c703] at h
            obtain rfl : b702 = true := hb702.symm.trans (beq_iff_eq.2 c703)
            refine VC.cond_t rfl ?_
            refine VC.seq ?_
            refine VC.region ?_
            refine VL.va (op_build (vals := []) (vcs := []) (cells := [.slice none 0 0, .slice none 0 0]) SI25 rfl .nil (by kernel_rfl) (ltn rfl)) rfl ?_
            refine VL.step1 (o_store 0 2 rfl rfl rfl TI25 (.agg (.of rfl)) rfl (len rfl)) rfl ?_
            refine VL.va (op_assign rfl (ltn rfl)) rfl ?_
            refine VL.done ?_
            refine VN.then ?_
            refine VC.ret ?_
            refine VR.block ?_
            refine VR.then ?_
            simp only [Option.some.injEq, Prod.mk.injEq] at h
            obtain ⟨rfl, rfl, rfl⟩ := h
            refine VR.nilFact' 1 ?_
            refine VR.nilFact' 2 ?_
            exact VR.fn (rs := [.cell 6 25, .tmp 7]) [.row (.slice none 0 0) 1 (([] : List ByteArray).map enc_str), .row (.slice none 0 0) 2 (([] : List S32).map enc32)] [] [] rfl (.cell 0 rfl rfl TI25 (fun h => absurd h (by decide)) (.tmp rfl .nil)) ⟨(.slice none 0 0), (.slice none 0 0), rfl, rfl, rfl⟩ ⟨⟨1, rfl⟩, ⟨0, rfl⟩, trivial⟩ rfl (by decide)
          · rw [if_neg c703] at h
            obtain rfl : b702 = false := hb702.symm.trans (beq_eq_false_iff_ne.2 c703)
            refine VC.cond_f rfl ?_
            refine VC.skip ?_
            refine VN.block ?_
            refine VN.then ?_
            refine VC.seq ?_
            refine VC.region ?_
            refine VL.va (op_fieldAddr FI25_1 rfl (add_at _ _ _) (ltn rfl)) rfl ?_
            refine VL.va (op_load 1 1 rfl rfl TI23 rfl (by decide) (ltn rfl)) rfl ?_
            replace h := Option.bind_eq_some_iff.1 h
            obtain ⟨r706, hA707, h⟩ := h
            refine VL.sC (o_call0 FO21 (slices_Clip_api_Write_api_Write.ok l0_1 v0_1 r706 hA707) rfl rfl (ltn rfl) (All_of (.cons (List.mem_of_getElem? (i := 1) rfl) .nil))) rfl ?_
            rintro _ _ _ ⟨A708, rfl, rfl, rfl⟩
            refine VL.va (op_move rfl (ltn rfl)) rfl ?_
            refine VL.va (op_move rfl (ltn rfl)) rfl ?_
            refine VL.va (op_build (vals := [(0, .int .i64 a1), (1, .string a2)]) (vcs := [(0, [.int .i64 a1]), (1, [.string a2])]) (cells := [.int .i64 a1, .string a2]) SI33 rfl (.cons ⟨rfl, (.c rfl)⟩ (.cons ⟨rfl, (.c rfl)⟩ .nil)) (by kernel_rfl) (ltn rfl)) rfl ?_
            refine VL.sG (o_buildSlice (vals := [(0, .agg #[.int .i64 a1, .string a2])]) (cells := #[.int .i64 a1, .string a2]) (es := List.map enc32 ([(⟨a1, a2⟩ : S32)] : List S32)) Try.underlying23 TI33 Z33 rfl (by decide) (by decide) (by kernel_rfl) (by kernel_rfl) rfl (flat_map enc32_ok _) (ltn rfl)) rfl ?_
            intro v711
            by_cases c712 : (r706.length + ([(⟨a1, a2⟩ : S32)] : List S32).length) * 24 ≤ 140737488355328
            · rw [if_pos c712] at h
              refine VL.sG (o_append_clip 0 appm Try.underlying23 EI33 rfl rfl rfl (.inr ⟨0, _, rfl⟩) (bndm c712) (ltn rfl)) rfl ?_
              intro v713
              refine VL.va (op_fieldAddr FI25_1 rfl (add_at _ _ _) (ltn rfl)) rfl ?_
              refine VL.step1 (o_store 1 1 rfl rfl rfl TI23 (.f 0 rfl) rfl (len rfl)) rfl ?_
              refine VL.done ?_
              refine VN.then ?_
              refine VC.seq ?_
              refine VC.region ?_
              refine VL.va (op_load 1 2 rfl rfl TI25 rfl (fun h => absurd h (by decide)) (ltn rfl)) rfl ?_
              refine VL.step1 (o_store 0 2 rfl rfl rfl TI25 (.agg (.f 2 rfl (.f 0 rfl .nil))) rfl (len rfl)) rfl ?_
              refine VL.va (op_assign rfl (ltn rfl)) rfl ?_
              refine VL.done ?_
              refine VN.then ?_
              refine VC.ret ?_
              simp only [Option.some.injEq, Prod.mk.injEq] at h
              obtain ⟨rfl, rfl, rfl⟩ := h
              exact VR.fn (rs := [.cell 6 25, .tmp 7]) [.row v0_0 1 (l0_0.map enc_str), .row v713 2 ((r706 ++ ([(⟨a1, a2⟩ : S32)] : List S32)).map enc32)] [] [] rfl (.cell 0 rfl rfl TI25 (fun h => absurd h (by decide)) (.tmp rfl .nil)) ⟨v0_0, v713, rfl, rfl, rfl⟩ ⟨⟨2, rfl⟩, ⟨0, rfl⟩, trivial⟩ rfl (by decide)
            · rw [if_neg c712] at h; cases h
        · rw [if_neg c701] at h
          obtain rfl : b700 = true := hb700.symm.trans (bne_iff_ne.2 c701)
          refine VC.cond_t rfl ?_
          refine VC.seq ?_
          refine VC.region ?_
          refine VL.va (op_build (vals := []) (vcs := []) (cells := [.slice none 0 0, .slice none 0 0]) SI25 rfl .nil (by kernel_rfl) (ltn rfl)) rfl ?_
          refine VL.step1 (o_store 0 2 rfl rfl rfl TI25 (.agg (.of rfl)) rfl (len rfl)) rfl ?_
          refine VL.va (op_assign rfl (ltn rfl)) rfl ?_
          refine VL.done ?_
          refine VN.then ?_
          refine VC.ret ?_
          refine VR.block ?_
          refine VR.then ?_
          simp only [Option.some.injEq, Prod.mk.injEq] at h
          obtain ⟨rfl, rfl, rfl⟩ := h
          refine VR.nilFact' 1 ?_
          refine VR.nilFact' 2 ?_
          exact VR.fn (rs := [.cell 6 25, .tmp 7]) [.row (.slice none 0 0) 1 (([] : List ByteArray).map enc_str), .row (.slice none 0 0) 2 (([] : List S32).map enc32)] [] [] rfl (.cell 0 rfl rfl TI25 (fun h => absurd h (by decide)) (.tmp rfl .nil)) ⟨(.slice none 0 0), (.slice none 0 0), rfl, rfl, rfl⟩ ⟨⟨1, rfl⟩, ⟨0, rfl⟩, trivial⟩ rfl (by decide)
  · rw [if_neg c688] at h
    obtain rfl := Bool.eq_false_iff.2 c688
    refine VL.va (op_not rfl rfl (ltn rfl)) rfl ?_
    refine VL.va (op_assign rfl (ltn rfl)) rfl ?_
    refine VL.done ?_
    refine VN.then ?_
    refine VC.cond_t rfl ?_
    refine VC.seq ?_
    refine VC.region ?_
    refine VL.va (op_build (vals := []) (vcs := []) (cells := [.slice none 0 0, .slice none 0 0]) SI25 rfl .nil (by kernel_rfl) (ltn rfl)) rfl ?_
    refine VL.step1 (o_store 0 2 rfl rfl rfl TI25 (.agg (.of rfl)) rfl (len rfl)) rfl ?_
    refine VL.va (op_assign rfl (ltn rfl)) rfl ?_
    refine VL.done ?_
    refine VN.then ?_
    refine VC.ret ?_
    refine VR.block ?_
    refine VR.then ?_
    simp only [Option.some.injEq, Prod.mk.injEq] at h
    obtain ⟨rfl, rfl, rfl⟩ := h
    refine VR.nilFact' 1 ?_
    refine VR.nilFact' 2 ?_
    exact VR.fn (rs := [.cell 6 25, .tmp 7]) [.row (.slice none 0 0) 1 (([] : List ByteArray).map enc_str), .row (.slice none 0 0) 2 (([] : List S32).map enc32)] [] [] rfl (.cell 0 rfl rfl TI25 (fun h => absurd h (by decide)) (.tmp rfl .nil)) ⟨(.slice none 0 0), (.slice none 0 0), rfl, rfl, rfl⟩ ⟨⟨1, rfl⟩, ⟨0, rfl⟩, trivial⟩ rfl (by decide)
def lay_14_ren : Go.Shelf.Ren := ⟨fun | 105 => 14 | 212 => 23 | 99 => 24 | 165 => 25 | 166 => 26 | 170 => 27 | 169 => 28 | 263 => 36 | 264 => 37 | 206 => 38 | 240 => 39 | 241 => 40 | 276 => 43 | 277 => 44 | n => n, fun | 9 => 9 | 3 => 3 | 4 => 4 | 20 => 20 | 0 => 0 | 46 => 54 | 109 => 55 | 5 => 5 | 72 => 60 | 76 => 64 | 51 => 75 | 146 => 76 | 53 => 26 | 148 => 78 | 70 => 58 | 37 => 48 | 75 => 63 | 127 => 80 | 164 => 83 | 80 => 67 | n => n, fun | n => n⟩
theorem lay_14 : Go.Proofs.Lays.n105 Try.prog lay_14_ren where
  mixed := by kernel_rfl
  f99 := Try.func24.trans (congrArg some (by kernel_rfl))
  f105 := Try.func14.trans (congrArg some (by kernel_rfl))
  f165 := Try.func25.trans (congrArg some (by kernel_rfl))
  f166 := Try.func26.trans (congrArg some (by kernel_rfl))
  f169 := Try.func28.trans (congrArg some (by kernel_rfl))
  f170 := Try.func27.trans (congrArg some (by kernel_rfl))
  f206 := Try.func38.trans (congrArg some (by kernel_rfl))
  f212 := Try.func23.trans (congrArg some (by kernel_rfl))
  f240 := Try.func39.trans (congrArg some (by kernel_rfl))
  f241 := Try.func40.trans (congrArg some (by kernel_rfl))
  f263 := Try.func36.trans (congrArg some (by kernel_rfl))
  f264 := Try.func37.trans (congrArg some (by kernel_rfl))
  f276 := Try.func43.trans (congrArg some (by kernel_rfl))
  f277 := Try.func44.trans (congrArg some (by kernel_rfl))
  t0 := Try.underlying0
  a0 := Try.isAgg0
  z0 := Try.sizeOf0
  v0 := Try.zeroValue0
  t3 := Try.underlying3
  a3 := Try.isAgg3
  z3 := Try.sizeOf3
  v3 := Try.zeroValue3
  t4 := Try.underlying4
  a4 := Try.isAgg4
  z4 := Try.sizeOf4
  v4 := Try.zeroValue4
  t5 := Try.underlying5
  a5 := Try.isAgg5
  z5 := Try.sizeOf5
  v5 := Try.zeroValue5
  t9 := Try.underlying9
  a9 := Try.isAgg9
  z9 := Try.sizeOf9
  v9 := Try.zeroValue9
  t20 := Try.underlying20
  a20 := Try.isAgg20
  z20 := Try.sizeOf20
  v20 := Try.zeroValue20
  t37 := Try.underlying48
  a37 := Try.isAgg48
  z37 := Try.sizeOf48
  v37 := Try.zeroValue48
  t46 := Try.underlying54
  a46 := Try.isAgg54
  z46 := Try.sizeOf54
  v46 := Try.zeroValue54
  t51 := Try.underlying75
  a51 := Try.isAgg75
  z51 := Try.sizeOf75
  v51 := Try.zeroValue75
  t53 := Try.underlying26
  a53 := Try.isAgg26
  z53 := Try.sizeOf26
  v53 := Try.zeroValue26
  t70 := Try.underlying58
  a70 := Try.isAgg58
  z70 := Try.sizeOf58
  v70 := Try.zeroValue58
  t72 := Try.underlying60
  a72 := Try.isAgg60
  z72 := Try.sizeOf60
  v72 := Try.zeroValue60
  t75 := Try.underlying63
  a75 := Try.isAgg63
  z75 := Try.sizeOf63
  v75 := Try.zeroValue63
  t76 := Try.underlying64
  a76 := Try.isAgg64
  z76 := Try.sizeOf64
  v76 := Try.zeroValue64
  t109 := Try.underlying55
  a109 := Try.isAgg55
  z109 := Try.sizeOf55
  v109 := Try.zeroValue55
  t127 := Try.underlying80
  a127 := Try.isAgg80
  z127 := Try.sizeOf80
  v127 := Try.zeroValue80
  t146 := Try.underlying76
  a146 := Try.isAgg76
  z146 := Try.sizeOf76
  v146 := Try.zeroValue76
  t148 := Try.underlying78
  a148 := Try.isAgg78
  z148 := Try.sizeOf78
  v148 := Try.zeroValue78
  t164 := Try.underlying83
  a164 := Try.isAgg83
  z164 := Try.sizeOf83
  v164 := Try.zeroValue83
theorem lay_14x : Go.Proofs.Builder.Extra Try.prog lay_14_ren where
  sizeBuilder := by kernel_rfl
  liesBuilder := by kernel_rfl
  t5 := lay_14.t5
  a5 := lay_14.a5
  z5 := lay_14.z5
  v5 := lay_14.v5
  infoByte := by kernel_rfl
  cellsByte := by kernel_rfl
  sizeByte := by kernel_rfl
  neB5 := by decide

theorem strings_Repeat.ok (s : ByteArray) (c : Int) (r1 : ByteArray) (h : strings_Repeat.f s c = some r1) :
    VCalls Try.prog 14 [.string s, .int .i64 c] [] (fun v G own => v = .string r1 ∧ G = [] ∧ own = []) := by
  unfold strings_Repeat.f at h
  by_cases hc : ¬ (0 ≤ c ∧ c ≤ 9223372036854775807 ∧ s.size * c.toNat ≤ 140737488355328)
  · rw [if_neg hc] at h; cases h
  replace hc := Decidable.not_not.1 hc
  rw [if_pos hc] at h
  obtain rfl := Option.some.inj h
  obtain ⟨n, rfl⟩ : ∃ n : Nat, c = (n : Int) := ⟨c.toNat, by omega⟩
  exact VCalls.of fun w => Go.Proofs.Any.strings_Repeat lay_14 lay_14x s n w (by omega) (by simpa using hc.2.2)
def lay_23_ren : Go.Shelf.Ren := ⟨fun | 212 => 23 | 263 => 36 | 264 => 37 | n => n, fun | 46 => 54 | 51 => 75 | 146 => 76 | 53 => 26 | 148 => 78 | n => n, fun | n => n⟩
theorem lay_23 : Go.Proofs.Lays.n212 Try.prog lay_23_ren where
  mixed := by kernel_rfl
  f212 := Try.func23.trans (congrArg some (by kernel_rfl))
  f263 := Try.func36.trans (congrArg some (by kernel_rfl))
  f264 := Try.func37.trans (congrArg some (by kernel_rfl))
  t46 := Try.underlying54
  a46 := Try.isAgg54
  z46 := Try.sizeOf54
  v46 := Try.zeroValue54
  t51 := Try.underlying75
  a51 := Try.isAgg75
  z51 := Try.sizeOf75
  v51 := Try.zeroValue75
  t53 := Try.underlying26
  a53 := Try.isAgg26
  z53 := Try.sizeOf26
  v53 := Try.zeroValue26
  t146 := Try.underlying76
  a146 := Try.isAgg76
  z146 := Try.sizeOf76
  v146 := Try.zeroValue76
  t148 := Try.underlying78
  a148 := Try.isAgg78
  z148 := Try.sizeOf78
  v148 := Try.zeroValue78
theorem slices_Repeat_string_string.mul (x y : Nat) (hx : x * y < 18446744073709551616) (hx1 : x < 18446744073709551616) (hy : y < 18446744073709551616) : VCalls Try.prog 23 [.int .u64 x, .int .u64 y] [] (fun v G own => v = .tuple [.int .u64 0, .int .u64 ((x * y : Nat) : Int)].toArray ∧ G = [] ∧ own = []) := by
  refine VCalls.of fun w => (Go.Proofs.Any.bits_Mul lay_23 x y hx1 hy w).mono ?_
  rintro e w' ⟨he, hw⟩
  rw [Nat.div_eq_of_lt hx, Nat.mod_eq_of_lt hx] at he
  exact ⟨he, hw ▸ Below.refl _ _⟩
set_option maxHeartbeats 4000000 in
set_option maxRecDepth 100000 in
theorem slices_Repeat_string_string.ok (l0 : List ByteArray) (a1 : Int) (v0 : Value) (r1 : List ByteArray) (h : slices_Repeat_string_string.f l0 a1 = some r1) :
    VCalls Try.prog 20 [v0, .int .i64 a1] [.row v0 1 (l0.map enc_str)] (fun v G own => ∃ w0 : Value, v = w0 ∧ G = [] ∧ own = [(w0, 9, 1, r1.map enc_str)]) := by
  unfold slices_Repeat_string_string.f at h
  by_cases hc : ¬ (0 < l0.length ∧ 0 < a1 ∧ l0.length * a1.toNat * 16 ≤ 140737488355328)
  · rw [if_neg hc] at h; cases h
  replace hc := Decidable.not_not.1 hc
  rw [if_pos hc] at h
  obtain rfl := Option.some.inj h
  clear h
  obtain ⟨hl0, ha1, hbig⟩ := hc
  obtain ⟨n, rfl⟩ : ∃ n : Nat, a1 = (n : Int) := ⟨a1.toNat, by omega⟩
  have hn0 : 0 < n := by omega
  clear ha1
  simp only [Int.toNat_natCast] at hbig ⊢
  obtain ⟨N, hN⟩ : ∃ N, l0.length * n = N := ⟨_, rfl⟩
  have hNp : 0 < N := by rw [← hN]; exact Nat.mul_pos hl0 hn0
  have hpN : l0.length ≤ N := by rw [← hN]; exact Nat.le_mul_of_pos_right _ hn0
  have hnN : n ≤ N := by rw [← hN]; exact Nat.le_mul_of_pos_left _ hl0
  rw [hN] at hbig
  have hNs : N ≤ 140737488355328 := by omega
  have hRl : (repl l0 n).length = N := by rw [repl_len, hN]
  have hRf : flatOk 1 ((repl l0 n).map enc_str) := flat_map enc_str_ok _
  have hLf : flatOk 1 (l0.map enc_str) := flat_map enc_str_ok _
  have hsh : ∀ j m, l0.length ∣ j → j + m ≤ N → (((repl l0 n).map enc_str).flatten.drop (j * 1)).take (m * 1) = ((repl l0 n).map enc_str).flatten.take (m * 1) := by
    rintro j m ⟨q, rfl⟩ hjm
    have hq : q ≤ n := by
      rcases Nat.lt_or_ge n q with h | h
      · have := Nat.mul_lt_mul_of_pos_left h hl0
        omega
      · exact h
    have e := repl_shift l0 n q hq
    rw [← flat_drop _ hRf, ← List.map_drop, e, List.map_take, flat_take _ hRf, List.take_take, Nat.min_eq_left (Nat.mul_le_mul_right _ (by omega))]
  have hRF : ((repl l0 n).map enc_str).flatten.length = N * 1 := by rw [flat_len hRf, lenm, hRl]
  have hR1 : ((repl l0 n).map enc_str).flatten.take (l0.length * 1) = (l0.map enc_str).flatten := by
    obtain ⟨k, rfl⟩ : ∃ k, n = k + 1 := ⟨n - 1, by omega⟩
    rw [repl, List.map_append, List.flatten_append, ← lenm (f := enc_str) (xs := l0), ← flat_len hLf, List.take_left]
  have hone : ∀ k, ∀ u ∈ ((repl l0 n).map enc_str).flatten.take k, u.oneCell' = true := fun k u hu => flat_one hRf u (List.mem_of_mem_take hu)
  generalize hRR : ((repl l0 n).map enc_str).flatten = R at *
  refine VCalls.intro Try.func20 rfl (len rfl) fun E hC hW hD hU => ?_
  refine VC.formF 0 rfl fun A cap hv h1 h2 h3 => ?_
  rw [lenm] at hv h1 h3
  subst hv
  cases A with
  | none => exact absurd (h3 rfl) (by omega)
  | some ad =>
  clear h3
  refine VC.seq (VC.region ?_)
  refine VL.va (op_assign rfl (ltn rfl)) rfl ?_
  refine VL.done (VN.then ?_)
  refine VC.seq ?_
  refine VC.seq (VC.region ?_)
  refine VL.va (op_move rfl (ltn rfl)) rfl ?_
  refine VL.letter (decide ((n : Int) < 0)) fun b1 hb1 => ?_
  refine VL.va (op_cmp rfl rfl (congrArg some hb1) (ltn rfl)) rfl ?_
  refine VL.done (VN.then ?_)
  obtain rfl : b1 = false := hb1.symm.trans (decide_eq_false (by omega))
  clear hb1
  refine VC.cond_f rfl (VC.skip (VN.then ?_))
  refine VC.seq (VC.region ?_)
  refine VL.va (op_move rfl (ltn rfl)) rfl ?_
  refine VL.va (op_len (m := l0.length) 0 lenm Try.underlying22 rfl rfl (ltn rfl)) rfl ?_
  refine VL.va (op_conv (q := (l0.length : Int)) Try.underlying3 Try.underlying54 rfl (by rw [IntKind.wrap_u64]; omega) (ltn rfl)) rfl ?_
  refine VL.va (op_move rfl (ltn rfl)) rfl ?_
  refine VL.va (op_conv (q := (n : Int)) Try.underlying3 Try.underlying54 rfl (by rw [IntKind.wrap_u64]; omega) (ltn rfl)) rfl ?_
  refine VL.sC (o_call0 FO23 (slices_Repeat_string_string.mul l0.length n (by rw [hN]; omega) (by omega) (by omega)) rfl rfl (ltn rfl) (All_of .nil)) rfl ?_
  rintro _ _ _ ⟨rfl, rfl, rfl⟩
  rw [hN]
  refine VL.va (op_move rfl (ltn rfl)) rfl ?_
  refine VL.va (op_extract rfl rfl (ltn rfl)) rfl ?_
  refine VL.va (op_extract rfl rfl (ltn rfl)) rfl ?_
  refine VL.va (op_assign rfl (ltn rfl)) rfl ?_
  refine VL.va (op_assign rfl (ltn rfl)) rfl ?_
  refine VL.done (VN.then ?_)
  refine VC.seq ?_
  refine VC.seq (VC.region ?_)
  refine VL.va (op_move rfl (ltn rfl)) rfl ?_
  refine VL.va (op_cmp (b := false) rfl rfl rfl (ltn rfl)) rfl ?_
  refine VL.va (op_move rfl (ltn rfl)) rfl ?_
  refine VL.va (op_move rfl (ltn rfl)) rfl ?_
  refine VL.letter (decide ((N : Int) > 9223372036854775807)) fun b2 hb2 => ?_
  refine VL.va (op_cmp rfl rfl (congrArg some hb2) (ltn rfl)) rfl ?_
  refine VL.va (op_pick rfl rfl (ltn rfl)) rfl ?_
  refine VL.done (VN.then ?_)
  obtain rfl : b2 = false := hb2.symm.trans (decide_eq_false (by omega))
  clear hb2
  refine VC.cond_f rfl (VC.skip (VN.then ?_))
  refine VC.seq (VC.region ?_)
  refine VL.va (op_move rfl (ltn rfl)) rfl ?_
  refine VL.va (op_conv (q := (N : Int)) Try.underlying54 Try.underlying3 rfl (by rw [IntKind.wrap_i64]; omega) (ltn rfl)) rfl ?_
  refine o_makeSlice Try.underlying22 EI9 rfl rfl hbig (ltn rfl) rfl fun g cur hcur => ?_
  refine VL.va (op_assign rfl (ltn rfl)) rfl ?_
  refine VL.done (VN.then ?_)
  refine VC.seq (VC.region ?_)
  refine VL.va (op_move rfl (ltn rfl)) rfl ?_
  refine VL.va (op_move rfl (ltn rfl)) rfl ?_
  have hLl : (l0.map enc_str).flatten.length = l0.length * 1 := by rw [flat_len hLf, lenm]
  refine VL.step1 (o_copy (m := l0.length) (cs := (l0.map enc_str).flatten) 0 Try.underlying22 TI9 rfl rfl rfl (Nat.min_eq_left hpN) hLl (by rw [hLl, hcur, Nat.zero_add]; exact Nat.mul_le_mul_right _ hpN) (src_row 0 rfl) (flat_one hLf) rfl (ltn rfl)) rfl ?_
  refine VL.va (op_assign rfl (ltn rfl)) rfl ?_
  refine VL.done (VN.then ?_)
  have hc1 : (upd cur 0 (l0.map enc_str).flatten).length = N * 1 := by rw [upd_len, hcur]; rw [hLl, hcur, Nat.zero_add]; exact Nat.mul_le_mul_right _ hpN
  have hc2 : (upd cur 0 (l0.map enc_str).flatten).take (l0.length * 1) = R.take (l0.length * 1) := by
    rw [hR1, upd, List.take_zero, List.nil_append, ← hLl, List.take_left]
  generalize upd cur 0 (l0.map enc_str).flatten = cur1 at hc1 hc2 ⊢
  clear hcur
  refine VC.seq (VC.block ?_)
  refine VC.loop2 (fun (j : Nat) (cs : List Value) => ⟨48, [(7, .slice (some ⟨g, 0, none⟩) N N), (8, .int .i64 j)], [.row (.slice (some ad) l0.length cap) 1 (l0.map enc_str)], [(g, 9, cs)], []⟩)
    (fun k j cs => N < k + j ∧ 0 < j ∧ j ≤ N ∧ cs.length = N * 1 ∧ cs.take (j * 1) = R.take (j * 1) ∧ (l0.length ∣ j ∨ j = N))
    (N + 1) l0.length cur1 [0] [] ⟨by omega, hl0, hpN, hc1, hc2, .inl (Nat.dvd_refl _)⟩ ⟨rfl, ⟨rfl, rfl, trivial⟩, SubF.of (fun _ h => h), rfl, by decide, rfl, by decide⟩ (by rintro j cs ⟨h, _, h2, _⟩; omega) ?_
  clear hc1 hc2 cur1
  rintro k ih j cs ⟨hk, hj0, hjN, hcl, hct, hdv⟩
  refine VC.seq ?_
  refine VC.seq (VC.region ?_)
  refine VL.va (op_move rfl (ltn rfl)) rfl ?_
  refine VL.va (op_move rfl (ltn rfl)) rfl ?_
  refine VL.va (op_lenV Try.underlying22 rfl (ltn rfl)) rfl ?_
  refine VL.letter (decide ((j : Int) < (N : Int))) fun b3 hb3 => ?_
  refine VL.va (op_cmp rfl rfl (congrArg some hb3) (ltn rfl)) rfl ?_
  refine VL.done (VN.then ?_)
  by_cases c3 : j < N
  · obtain rfl : b3 = true := hb3.symm.trans (decide_eq_true (by omega))
    clear hb3
    refine VC.cond_t rfl (VC.skip (VN.then ?_))
    have hdv2 := hdv.resolve_right (by omega)
    obtain ⟨m, hm⟩ : ∃ m, min j (N - j) = m := ⟨_, rfl⟩
    have hm1 : m ≤ j := by omega
    have hm2 : m ≤ N - j := by omega
    have hm0 : 0 < m := by omega
    have hjm : j * 1 + m * 1 ≤ N * 1 := by rw [← Nat.add_mul]; exact Nat.mul_le_mul_right _ (by omega)
    have hmj : m * 1 ≤ j * 1 := Nat.mul_le_mul_right _ hm1
    have hcs : (cs.drop 0).take (m * 1) = R.take (m * 1) := by
      have := congrArg (List.take (m * 1)) hct
      rw [List.take_take, List.take_take, Nat.min_eq_left hmj] at this
      rw [List.drop_zero]
      exact this
    have hcsl : (R.take (m * 1)).length = m * 1 := by rw [List.length_take, hRF]; omega
    refine VC.block ?_
    refine VC.draw ⟨0, [], [], [], []⟩ (by kernel_rfl) rfl (by kernel_rfl) (n := 10) (listed := LB 10 0) ?_
    refine VA.va (i := 0) (listed' := LB 10 1) rfl (op_move rfl (ltn rfl)) rfl (by kernel_rfl) (by kernel_rfl) (by kernel_rfl) (by kernel_rfl) ⟨trivial, trivial, trivial⟩ (fun _ _ _ h => h) ?_
    refine VA.va (i := 1) (listed' := LB 10 3) rfl (op_move rfl (ltn rfl)) rfl (by kernel_rfl) (by kernel_rfl) (by kernel_rfl) (by kernel_rfl) ⟨trivial, trivial, trivial⟩ (fun _ _ _ h => h) ?_
    refine VA.va (i := 2) (listed' := LB 10 7) rfl (op_move rfl (ltn rfl)) rfl (by kernel_rfl) (by kernel_rfl) (by kernel_rfl) (by kernel_rfl) ⟨trivial, trivial, trivial⟩ (fun _ _ _ h => h) ?_
    refine VA.va (i := 3) (listed' := LB 10 15) rfl (op_cutV' j N (cutV_at0 (.inl c3)) Try.underlying22 TI9 rfl ⟨⟨_, _, rfl, Int.natCast_nonneg j, Int.toNat_natCast _⟩, rfl, by omega, Nat.le_refl _⟩ (Nat.le_refl _) (ltn rfl)) rfl (by kernel_rfl) (by kernel_rfl) (by kernel_rfl) (by kernel_rfl) ⟨trivial, trivial, trivial⟩ (fun _ _ _ h => h) ?_
    refine VA.va (i := 4) (listed' := LB 10 31) rfl (op_move rfl (ltn rfl)) rfl (by kernel_rfl) (by kernel_rfl) (by kernel_rfl) (by kernel_rfl) ⟨trivial, trivial, trivial⟩ (fun _ _ _ h => h) ?_
    refine VA.va (i := 5) (listed' := LB 10 63) rfl (op_move rfl (ltn rfl)) rfl (by kernel_rfl) (by kernel_rfl) (by kernel_rfl) (by kernel_rfl) ⟨trivial, trivial, trivial⟩ (fun _ _ _ h => h) ?_
    refine VA.va (i := 6) (listed' := LB 10 127) rfl (op_cutH' 0 j (v := .slice (some ⟨g, 0, none⟩) j N) (by rw [cutV_at0 (.inr rfl)]; simp) Try.underlying22 TI9 rfl ⟨rfl, ⟨_, _, rfl, Int.natCast_nonneg j, Int.toNat_natCast j⟩, Nat.zero_le _, by omega⟩ (ltn rfl)) rfl (by kernel_rfl) (by kernel_rfl) (by kernel_rfl) (by kernel_rfl) ⟨trivial, trivial, trivial⟩ (fun _ _ _ h => h) ?_
    refine VA.one1 (i := 7) (listed' := LB 10 255) (by kernel_rfl) rfl (o_copy (m := m) (cs := R.take (m * 1)) 0 Try.underlying22 TI9 rfl rfl rfl hm hcsl (by rw [hcsl, hcl]; exact hjm) (src_box (m * 1) 0 rfl hcs.symm) (hone _) rfl (ltn rfl)) rfl (by kernel_rfl) ⟨trivial, trivial, trivial⟩ ?_
    refine VA.va (i := 8) (listed' := LB 10 511) rfl (op_ari64 (q := ((j + m : Nat) : Int)) rfl rfl (congrArg some (by show wrap64 ((j : Int) + (m : Int)) = _; exact w64 (by omega) (by omega))) (ltn rfl)) rfl (by kernel_rfl) (by kernel_rfl) (by kernel_rfl) (by kernel_rfl) ⟨trivial, trivial, trivial⟩ (fun _ _ _ h => h) ?_
    refine VA.va (i := 9) (listed' := LB 10 1023) rfl (op_assign rfl (ltn rfl)) rfl (by kernel_rfl) (by kernel_rfl) (by kernel_rfl) (by kernel_rfl) ⟨trivial, trivial, trivial⟩ (fun _ _ _ h => h) ?_
    refine VA.done (by kernel_rfl) (VN.block ?_)
    refine VN.again [0] [] (ih (j + m) (upd cs (j * 1) (R.take (m * 1))) ⟨by omega, by omega, by omega, ?_, ?_, ?_⟩) ⟨rfl, ⟨rfl, rfl, trivial⟩, SubF.of (fun _ h => h), rfl, by decide, rfl, by decide⟩
    · rw [upd_len, hcl]
      rw [hcsl, hcl]
      exact hjm
    · have h1 : (R.take (j * 1)).length = j * 1 := by rw [List.length_take, hRF]; omega
      have h2 : (R.take (j * 1) ++ R.take (m * 1)).length = (j + m) * 1 := by rw [List.length_append, h1, hcsl, Nat.add_mul]
      unfold upd
      rw [hct, ← h2, List.take_left, h2, Nat.add_mul, List.take_add, hsh j m hdv2 (by omega)]
    · rcases Nat.lt_or_ge (N - j) j with h | h
      · exact .inr (by omega)
      · have : m = j := by omega
        subst this
        exact .inl (by obtain ⟨q, hq⟩ := hdv2; exact ⟨q + q, by rw [Nat.mul_add, ← hq]⟩)
  obtain rfl : b3 = false := hb3.symm.trans (decide_eq_false (by omega))
  clear hb3
  obtain rfl : j = N := by omega
  refine VC.cond_f rfl ?_
  refine VC.exit (VX.then (VX.then (VX.hit (VN.then ?_))))
  refine VC.seq (VC.region ?_)
  refine VL.va (op_move rfl (ltn rfl)) rfl ?_
  refine VL.va (op_assign rfl (ltn rfl)) rfl ?_
  refine VL.done (VN.then ?_)
  refine VC.ret ?_
  refine VR.closeBox 0 j 1 ((repl l0 n).map enc_str) rfl (by rw [lenm, hRl]; exact Nat.le_refl _) (by simp only [maxLen]; omega) hcl ?_ hRf ?_
  · rw [lenm, hRl, hct, hRR, ← hRF, List.take_length]
  rw [lenm, hRl]
  exact VR.fn (rs := [.tmp 4]) [] [(.slice (some ⟨g, 0, none⟩) j j, 9, 1, (repl l0 n).map enc_str)] [0] rfl (.tmp rfl .nil) ⟨_, rfl, rfl, rfl⟩ trivial rfl (by decide)
set_option maxHeartbeats 4000000 in
set_option maxRecDepth 100000 in
theorem disk_New.ok (a0 : Int)  (r1 : List ByteArray) (r2 : List S32) (r3 : Int) (h : disk_New.f a0 = some (r1, r2, r3)) :
    VCalls Try.prog 9 [.int .i64 a0] [] (fun v G own => ∃ w0 w1 : Value, v = .tuple #[.agg #[w0, w1], .int .i64 r3] ∧ G = [] ∧ own = [(w0, 9, 1, r1.map enc_str), (w1, 33, 2, r2.map enc32)]) := by
  refine VCalls.intro Try.func9 rfl (len rfl) fun E hC hW hD hU => ?_
  unfold disk_New.f at h
  refine VC.seq ?_
  refine VC.region ?_
  refine VL.sG (o_alloc Z25 ZL25 (ltn rfl)) rfl ?_
  intro g730
  refine VL.va (op_assign rfl (ltn rfl)) rfl ?_
  refine VL.done ?_
  refine VN.then ?_
  refine VC.seq ?_
  refine VC.seq ?_
  refine VC.region ?_
  refine VL.va (op_move rfl (ltn rfl)) rfl ?_
  refine VL.letter (decide (a0 < 1)) fun b745 hb745 => ?_
  refine VL.va (op_cmp rfl rfl (congrArg some hb745) (ltn rfl)) rfl ?_
  refine VL.va (op_move rfl (ltn rfl)) rfl ?_
  by_cases c746 : a0 < 1
  · rw [if_pos c746] at h
    obtain rfl : b745 = true := hb745.symm.trans (decide_eq_true c746)
    refine VL.un rfl rfl (ltn rfl) ?_
    refine VL.un rfl rfl (ltn rfl) ?_
    refine VL.va (op_pick rfl rfl (ltn rfl)) rfl ?_
    refine VL.done ?_
    refine VN.then ?_
    refine VC.cond_t rfl ?_
    refine VC.seq ?_
    refine VC.region ?_
    refine VL.va (op_build (vals := []) (vcs := []) (cells := [.slice none 0 0, .slice none 0 0]) SI25 rfl .nil (by kernel_rfl) (ltn rfl)) rfl ?_
    refine VL.step1 (o_store 0 2 rfl rfl rfl TI25 (.agg (.of rfl)) rfl (len rfl)) rfl ?_
    refine VL.va (op_assign rfl (ltn rfl)) rfl ?_
    refine VL.done ?_
    refine VN.then ?_
    refine VC.ret ?_
    refine VR.then ?_
    simp only [Option.some.injEq, Prod.mk.injEq] at h
    obtain ⟨rfl, rfl, rfl⟩ := h
    refine VR.nilRow' 9 1 ?_
    refine VR.nilRow' 33 2 ?_
    exact VR.fn (rs := [.cell 2 25, .tmp 3]) [] [((.slice none 0 0), 9, 1, ([] : List ByteArray).map enc_str), ((.slice none 0 0), 33, 2, ([] : List S32).map enc32)] [1, 0] rfl (.cell 0 rfl rfl TI25 (fun h => absurd h (by decide)) (.tmp rfl .nil)) ⟨(.slice none 0 0), (.slice none 0 0), rfl, rfl, rfl⟩ trivial rfl (by decide)
  · rw [if_neg c746] at h
    obtain rfl : b745 = false := hb745.symm.trans (decide_eq_false c746)
    refine VL.va (op_move rfl (ltn rfl)) rfl ?_
    refine VL.letter (decide (a0 > 512)) fun b749 hb749 => ?_
    refine VL.va (op_cmp rfl rfl (congrArg some hb749) (ltn rfl)) rfl ?_
    refine VL.va (op_pick rfl rfl (ltn rfl)) rfl ?_
    refine VL.done ?_
    refine VN.then ?_
    by_cases c750 : a0 > 512
    · rw [if_pos c750] at h
      obtain rfl : b749 = true := hb749.symm.trans (decide_eq_true c750)
      refine VC.cond_t rfl ?_
      refine VC.seq ?_
      refine VC.region ?_
      refine VL.va (op_build (vals := []) (vcs := []) (cells := [.slice none 0 0, .slice none 0 0]) SI25 rfl .nil (by kernel_rfl) (ltn rfl)) rfl ?_
      refine VL.step1 (o_store 0 2 rfl rfl rfl TI25 (.agg (.of rfl)) rfl (len rfl)) rfl ?_
      refine VL.va (op_assign rfl (ltn rfl)) rfl ?_
      refine VL.done ?_
      refine VN.then ?_
      refine VC.ret ?_
      refine VR.then ?_
      simp only [Option.some.injEq, Prod.mk.injEq] at h
      obtain ⟨rfl, rfl, rfl⟩ := h
      refine VR.nilRow' 9 1 ?_
      refine VR.nilRow' 33 2 ?_
      exact VR.fn (rs := [.cell 2 25, .tmp 3]) [] [((.slice none 0 0), 9, 1, ([] : List ByteArray).map enc_str), ((.slice none 0 0), 33, 2, ([] : List S32).map enc32)] [1, 0] rfl (.cell 0 rfl rfl TI25 (fun h => absurd h (by decide)) (.tmp rfl .nil)) ⟨(.slice none 0 0), (.slice none 0 0), rfl, rfl, rfl⟩ trivial rfl (by decide)
    · rw [if_neg c750] at h
      obtain rfl : b749 = false := hb749.symm.trans (decide_eq_false c750)
      refine VC.cond_f rfl ?_
      refine VC.skip ?_
      refine VN.then ?_
      refine VC.seq ?_
      refine VC.region ?_
      replace h := Option.bind_eq_some_iff.1 h
      obtain ⟨r753, hA754, h⟩ := h
      refine VL.sC (o_call0 FO14 (strings_Repeat.ok (⟨#[0]⟩ : ByteArray) 64 r753 hA754) rfl rfl (ltn rfl) (All_of .nil)) rfl ?_
      rintro _ _ _ ⟨rfl, rfl, rfl⟩
      refine VL.sG (o_buildSlice (vals := [(0, .string r753)]) (cells := #[.string r753]) (es := List.map enc_str ([r753] : List ByteArray)) Try.underlying22 TI9 Z9 rfl (by decide) (by decide) (by kernel_rfl) (by kernel_rfl) rfl (flat_map enc_str_ok _) (ltn rfl)) rfl ?_
      intro v756
      refine VL.va (op_move rfl (ltn rfl)) rfl ?_
      replace h := Option.bind_eq_some_iff.1 h
      obtain ⟨r757, hA758, h⟩ := h
      refine VL.sC (o_call_b0 FO20 (slices_Repeat_string_string.ok ([r753] : List ByteArray) a0 v756 r757 hA758) rfl rfl (ltn rfl) (All_of (.cons (.inr (.inl ⟨_, List.mem_of_getElem? (i := 0) rfl, rfl⟩)) .nil)) (by rintro _ _ _ ⟨_, rfl, rfl, rfl⟩; rfl)) rfl ?_
      rintro v760 _ _ ⟨_, rfl, rfl, rfl⟩
      refine VL.va (op_build (vals := [(0, v760)]) (vcs := [(0, [v760])]) (cells := [v760, .slice none 0 0]) SI25 rfl (.cons ⟨rfl, (.r 0 rfl)⟩ .nil) (by kernel_rfl) (ltn rfl)) rfl ?_
      refine VL.step1 (o_store 0 2 rfl rfl rfl TI25 (.agg (.r 0 rfl (.c rfl .nil))) rfl (len rfl)) rfl ?_
      refine VL.va (op_assign rfl (ltn rfl)) rfl ?_
      refine VL.done ?_
      refine VN.then ?_
      refine VC.ret ?_
      simp only [Option.some.injEq, Prod.mk.injEq] at h
      obtain ⟨rfl, rfl, rfl⟩ := h
      refine VR.nilRow' 33 2 ?_
      exact VR.fn (rs := [.cell 2 25, .tmp 3]) [] [(v760, 9, 1, r757.map enc_str), ((.slice none 0 0), 33, 2, ([] : List S32).map enc32)] [1, 0] rfl (.cell 0 rfl rfl TI25 (fun h => absurd h (by decide)) (.tmp rfl .nil)) ⟨v760, (.slice none 0 0), rfl, rfl, rfl⟩ trivial rfl (by decide)
set_option maxHeartbeats 4000000 in
set_option maxRecDepth 100000 in
theorem slices_Clone_string_string.ok (l0 : List ByteArray) (v0 : Value) (r1 : List ByteArray) (h : slices_Clone_string_string.f l0 = some r1) :
    VCalls Try.prog 19 [v0] [.row v0 1 (l0.map enc_str)] (fun v G own => ∃ w0 : Value, v = w0 ∧ G = [] ∧ own = [(w0, 9, 1, r1.map enc_str)]) := by
  unfold slices_Clone_string_string.f at h
  by_cases hc : ¬ (l0.length * 16 ≤ 140737488355328)
  · rw [if_neg hc] at h; cases h
  replace hc := Decidable.not_not.1 hc
  rw [if_pos hc] at h
  obtain rfl := Option.some.inj h
  clear h
  refine VCalls.intro Try.func19 rfl (len rfl) fun E hC hW hD hU => ?_
  refine VC.formF 0 rfl fun A cap hv h1 h2 h3 => ?_
  rw [lenm] at hv h1 h3
  subst hv
  refine VC.seq (VC.region ?_)
  refine VL.va (op_assign rfl (ltn rfl)) rfl ?_
  refine VL.done (VN.then ?_)
  refine VC.seq ?_
  refine VC.seq (VC.region ?_)
  refine VL.va (op_move rfl (ltn rfl)) rfl ?_
  refine VL.va (op_isnil Try.underlying22 rfl rfl (ltn rfl)) rfl ?_
  refine VL.done (VN.then ?_)
  cases A with
  | none =>
    have e : l0 = [] := List.eq_nil_of_length_eq_zero (h3 rfl)
    subst e
    refine VC.cond_t rfl ?_
    refine VC.seq (VC.region ?_)
    refine VL.va (op_assign rfl (ltn rfl)) rfl ?_
    refine VL.done (VN.then ?_)
    refine VC.ret (VR.then ?_)
    refine VR.nilRow' 9 1 ?_
    exact VR.fn (rs := [.tmp 2]) [] [(.slice none 0 0, 9, 1, [])] [0] rfl (.tmp rfl .nil) ⟨_, rfl, rfl, rfl⟩ trivial rfl (by decide)
  | some ad =>
    refine VC.cond_f rfl (VC.skip (VN.then ?_))
    refine VC.seq (VC.region ?_)
    refine VL.sG (o_buildSlice (vals := []) (cells := #[]) (es := List.map enc_str ([] : List ByteArray)) Try.underlying22 TI9 Z9 rfl (by decide) (by decide) (by kernel_rfl) rfl rfl (flat_map enc_str_ok _) (ltn rfl)) rfl ?_
    intro v1
    refine VL.va (op_move rfl (ltn rfl)) rfl ?_
    refine VL.sG (o_append (es3 := l0.map enc_str) 0 rfl Try.underlying22 EI9 rfl rfl rfl (.inl ⟨0, rfl⟩) (by rw [lenm, lenm]; simpa using hc) (ltn rfl)) rfl ?_
    intro v2
    refine VL.va (op_assign rfl (ltn rfl)) rfl ?_
    refine VL.done (VN.then ?_)
    refine VC.ret ?_
    exact VR.fn (rs := [.tmp 2]) [] [(v2, 9, 1, l0.map enc_str)] [0] rfl (.tmp rfl .nil) ⟨_, rfl, rfl, rfl⟩ trivial rfl (by decide)

end Go.Proofs.Ytlfkendmepdbkaa.PDiskReads
