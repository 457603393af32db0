/- Written by a program of this repo: what the program's functions do, each as a Lean function, shown of the loaded code; or a statement's row over that; no condition of its own. -/
import Derived.Test.YtdofmkbffffbpaaPWaitsFairx0
namespace Go.Proofs.Ytdofmkbffffbpaa.PWaitsFair
open Go Go.RowKit Go.Proofs.YtdofmkbffffbpaaV
set_option linter.unusedVariables false
set_option linter.unusedSimpArgs false

set_option maxHeartbeats 4000000 in
set_option maxRecDepth 100000 in
theorem tarrylaw09_cut.ok (a0_0 : ByteArray) (a0_1 : Int) (a0_2 : Int) (a0_3 : Int)  (r1 : ByteArray) (r2 : Int) (r3 : Int) (r4 : Int) (h : tarrylaw09_cut.f a0_0 a0_1 a0_2 a0_3 = some (r1, r2, r3, r4)) :
    VCalls Try.prog 8 [.agg #[.string a0_0, .int .i64 a0_1, .int .i64 a0_2, .int .i64 a0_3]] [] (fun v G own => v = .agg #[.string r1, .int .i64 r2, .int .i64 r3, .int .i64 r4] ∧ G = [] ∧ own = []) := by
  refine VCalls.intro Try.func8 rfl (len rfl) fun E hC hW hD hU => ?_
  unfold tarrylaw09_cut.f at h
  refine VC.seq ?_
  refine VC.region ?_
  refine VL.sG (o_box rfl (.agg (.of rfl)) (ltn rfl)) rfl ?_
  intro g14
  refine VL.sG (o_alloc Z26 ZL26 (ltn rfl)) rfl ?_
  intro g15
  refine VL.done ?_
  refine VN.then ?_
  refine VC.seq ?_
  refine VC.region ?_
  refine VL.va (op_fieldAddr FI26_0 rfl (add_at _ _ _) (ltn rfl)) rfl ?_
  refine VL.va (op_load 1 1 rfl rfl TI9 rfl (by decide) (ltn rfl)) rfl ?_
  refine VL.va (op_fieldAddr FI26_0 rfl (add_at _ _ _) (ltn rfl)) rfl ?_
  refine VL.va (op_load 1 1 rfl rfl TI9 rfl (by decide) (ltn rfl)) rfl ?_
  refine VL.va (op_lens Try.underlying9 rfl (ltn rfl)) rfl ?_
  refine VL.va (op_min rfl rfl (ltn rfl)) rfl ?_
  by_cases c16 : 0 ≤ mn (a0_0.size : Int) 18
  · rw [if_pos c16] at h
    by_cases c17 : (mn (a0_0.size : Int) 18) ≤ (a0_0.size : Int)
    · rw [if_pos c17] at h
      refine VL.va (op_sliceS 0 ((mn (a0_0.size : Int) 18).toNat) Try.underlying9 rfl ⟨rfl, ⟨_, _, rfl, c16, rfl⟩, by omega, by omega⟩ rfl (ltn rfl)) rfl ?_
      refine VL.va (op_fieldAddr FI26_0 rfl (add_at _ _ _) (ltn rfl)) rfl ?_
      refine VL.step1 (o_store 1 1 rfl rfl rfl TI9 (.c rfl) rfl (len rfl)) rfl ?_
      refine VL.done ?_
      refine VN.then ?_
      refine VC.seq ?_
      refine VC.region ?_
      refine VL.va (op_load 1 4 rfl rfl TI26 rfl (fun h => absurd h (by decide)) (ltn rfl)) rfl ?_
      refine VL.step1 (o_store 0 4 rfl rfl rfl TI26 (.agg (.of rfl)) rfl (len rfl)) rfl ?_
      refine VL.done ?_
      refine VN.then ?_
      refine VC.ret ?_
      simp only [Option.some.injEq, Prod.mk.injEq] at h
      obtain ⟨rfl, rfl, rfl, rfl⟩ := h
      exact VR.fn (rs := [.cell 2 26]) [] [] [] rfl (.cell 0 rfl rfl TI26 (fun h => absurd h (by decide)) .nil) ⟨rfl, rfl, rfl⟩ trivial rfl (by decide)
    · rw [if_neg c17] at h; cases h
  · rw [if_neg c16] at h; cases h
set_option maxHeartbeats 4000000 in
set_option maxRecDepth 100000 in
theorem tarrylaw09_few.ok (k : Nat) (l0 : List S25) (v0 : Value) (r1 : List S25) (h : tarrylaw09_few.f k l0 = some r1) :
    VCalls Try.prog 7 [v0] [.row v0 4 (l0.map enc25)] (fun v G own => ∃ w0 : Value, v = w0 ∧ G = [] ∧ own = [(w0, 26, 4, r1.map enc25)]) := by
  refine VCalls.intro Try.func7 rfl (len rfl) fun E hC hW hD hU => ?_
  unfold tarrylaw09_few.f at h
  refine VC.seq ?_
  refine VC.region ?_
  refine VL.va (op_assign rfl (ltn rfl)) rfl ?_
  refine VL.done ?_
  refine VN.then ?_
  refine VC.seq ?_
  refine VC.region ?_
  refine VL.va (op_assign rfl (ltn rfl)) rfl ?_
  refine VL.done ?_
  refine VN.then ?_
  refine VC.seq ?_
  refine VC.seq ?_
  refine VC.region ?_
  refine VL.va (op_move rfl (ltn rfl)) rfl ?_
  refine VL.va (op_move rfl (ltn rfl)) rfl ?_
  refine VL.va (op_len (m := l0.length) 0 lenm Try.underlying22 rfl rfl (ltn rfl)) rfl ?_
  refine VL.va (op_min rfl rfl (ltn rfl)) rfl ?_
  by_cases c70 : 0 ≤ mn (l0.length : Int) 34
  · rw [if_pos c70] at h
    by_cases c71 : (mn (l0.length : Int) 34) ≤ (l0.length : Int)
    · rw [if_pos c71] at h
      refine VL.sG (o_slice (m := l0.length) 0 0 ((mn (l0.length : Int) 34).toNat) lenm cutm Try.underlying22 TI26 rfl rfl ⟨rfl, ⟨_, _, rfl, c70, rfl⟩, by omega, by omega⟩ (ltn rfl)) rfl ?_
      intro v73
      refine VL.va (op_len (m := ((l0.take ((mn (l0.length : Int) 34).toNat)).drop 0).length) 0 lenm Try.underlying22 rfl rfl (ltn rfl)) rfl ?_
      refine VL.va (op_move rfl (ltn rfl)) rfl ?_
      refine VL.done ?_
      refine VN.then ?_
      refine VC.block ?_
      refine VC.nilRow' 26 4 ?_
      refine VC.loop3 (fun (v93 : Value) (l94 : List S25) (i96 : Int) => ⟨23, [(2, .slice none 0 0), (3, v93), (10, v73), (11, .int .i64 (((l0.take ((mn (l0.length : Int) 34).toNat)).drop 0).length : Int)), (12, .int .i64 i96)], [.row v73 4 (((l0.take ((mn (l0.length : Int) 34).toNat)).drop 0).map enc25)], [], [(v93, 26, 4, l94.map enc25)]⟩) (fun (ml1 : Nat) (v93 : Value) (l94 : List S25) (i96 : Int) => tarrylaw09_few.l1 k l0 ml1 l94 i96 = some r1) k (.slice none 0 0) ([] : List S25) 0 [] [0] h ⟨rfl, ⟨rfl, rfl, rfl, rfl, rfl, trivial⟩, ⟨⟨0, rfl⟩, trivial⟩, rfl, by decide, rfl, by decide⟩ (by intros; simp [tarrylaw09_few.l1]) ?_
      clear h
      intro ml1 ihl1 v93 l94 i96 h
      simp only [tarrylaw09_few.l1] at h
      refine VC.seq ?_
      refine VC.region ?_
      refine VL.letter (decide (i96 < (((l0.take ((mn (l0.length : Int) 34).toNat)).drop 0).length : Int))) fun b115 hb115 => ?_
      refine VL.va (op_cmp rfl rfl (congrArg some hb115) (ltn rfl)) rfl ?_
      refine VL.done ?_
      refine VN.then ?_
      refine VC.seq ?_
      by_cases c117 : i96 < (((l0.take ((mn (l0.length : Int) 34).toNat)).drop 0).length : Int)
      · rw [if_pos c117] at h
        obtain rfl : b115 = true := hb115.symm.trans (decide_eq_true c117)
        refine VC.cond_t rfl ?_
        refine VC.skip ?_
        refine VN.then ?_
        refine VC.seq ?_
        refine VC.block ?_
        refine VC.seq ?_
        refine VC.region ?_
        by_cases c118 : 0 ≤ i96
        · rw [if_pos c118] at h
          replace h := Option.bind_eq_some_iff.1 h
          obtain ⟨x119, hx119, h⟩ := h
          refine VL.open (m := ((l0.take ((mn (l0.length : Int) 34).toNat)).drop 0).length) 0 lenm rfl (pos_get hx119) ?_
          rintro ad120 n121 rfl
          refine VL.va (op_indexAddr Try.underlying22 TI26 rfl rfl c118 (lt_get c118 hx119) rfl (ltn rfl)) rfl ?_
          refine VL.va (op_load_row (sz := 4) (o := 0) 0 i96.toNat 4 rfl rfl (get_map hx119) TI26 rfl (fun h => absurd h (by decide)) (ltn rfl)) rfl ?_
          refine VL.sG (o_alloc Z26 ZL26 (ltn rfl)) rfl ?_
          intro g122
          refine VL.step1 (o_store 0 4 rfl rfl rfl TI26 (.agg (.of rfl)) rfl (len rfl)) rfl ?_
          refine VL.done ?_
          refine VN.then ?_
          refine VC.region ?_
          refine VL.va (op_move rfl (ltn rfl)) rfl ?_
          refine VL.va (op_load 0 4 rfl rfl TI26 rfl (fun h => absurd h (by decide)) (ltn rfl)) rfl ?_
          replace h := Option.bind_eq_some_iff.1 h
          obtain ⟨⟨t123, t124, t125, t126⟩, hA127, h⟩ := h
          dsimp only at h
          refine VL.sC (o_call0 FO8 (tarrylaw09_cut.ok x119.f0 x119.f1 x119.f2 x119.f3 t123 t124 t125 t126 hA127) rfl rfl (ltn rfl) (All_of .nil)) rfl ?_
          rintro _ _ _ ⟨rfl, rfl, rfl⟩
          refine VL.sG (o_buildSlice (vals := [(0, .agg #[.string t123, .int .i64 t124, .int .i64 t125, .int .i64 t126])]) (cells := #[.string t123, .int .i64 t124, .int .i64 t125, .int .i64 t126]) (es := List.map enc25 ([(⟨t123, t124, t125, t126⟩ : S25)] : List S25)) Try.underlying22 TI26 Z26 rfl (by decide) (by decide) (by kernel_rfl) (by kernel_rfl) rfl (flat_map enc25_ok _) (ltn rfl)) rfl ?_
          intro v129
          by_cases c130 : (l94.length + ([(⟨t123, t124, t125, t126⟩ : S25)] : List S25).length) * 40 ≤ 140737488355328
          · rw [if_pos c130] at h
            refine VL.sG (o_append 1 appm Try.underlying22 EI26 rfl rfl rfl (.inr ⟨0, _, rfl⟩) (bndm c130) (ltn rfl)) rfl ?_
            intro v131
            refine VL.va (op_assign rfl (ltn rfl)) rfl ?_
            refine VL.done ?_
            refine VN.block ?_
            refine VN.then ?_
            refine VC.region ?_
            refine VL.va (op_ari64 rfl rfl rfl (ltn rfl)) rfl ?_
            refine VL.va (op_move rfl (ltn rfl)) rfl ?_
            refine VL.done ?_
            refine VN.again [] [1] (ihl1 v131 (l94 ++ ([(⟨t123, t124, t125, t126⟩ : S25)] : List S25)) (wrap64 (i96 + 1)) h) ⟨rfl, ⟨rfl, rfl, rfl, rfl, rfl, trivial⟩, ⟨⟨0, rfl⟩, trivial⟩, rfl, by decide, rfl, by decide⟩
          · rw [if_neg c130] at h; cases h
        · rw [if_neg c118] at h; cases h
      · rw [if_neg c117] at h
        obtain rfl : b115 = false := hb115.symm.trans (decide_eq_false c117)
        refine VC.cond_f rfl ?_
        refine VC.exit ?_
        refine VX.then ?_
        refine VX.then ?_
        refine VX.hit ?_
        refine VN.then ?_
        refine VC.seq ?_
        refine VC.region ?_
        refine VL.va (op_move rfl (ltn rfl)) rfl ?_
        refine VL.va (op_assign rfl (ltn rfl)) rfl ?_
        refine VL.done ?_
        refine VN.then ?_
        refine VC.ret ?_
        obtain rfl := Option.some.inj h
        exact VR.fn (rs := [.tmp 2]) [] [(v93, 26, 4, l94.map enc25)] [0] rfl (.tmp rfl .nil) ⟨v93, rfl, rfl, rfl⟩ trivial rfl (by decide)
    · rw [if_neg c71] at h; cases h
  · rw [if_neg c70] at h; cases h
set_option maxHeartbeats 4000000 in
set_option maxRecDepth 100000 in
theorem goods_Right_1.ok (a0_0 : ByteArray) (a0_1 : ByteArray) (a0_2 : Int) (a0_3 : Int) (a0_4 : Int) (a1_0 : ByteArray) (a1_1 : ByteArray) (a1_2 : Int) (a1_3 : Int) (a1_4 : Int) (p1 : Nat) (r1 : Bool) (h : goods_Right_1.f a0_0 a0_1 a0_2 a0_3 a0_4 a1_0 a1_1 a1_2 a1_3 a1_4 = some r1) :
    VCalls Try.prog 67 [.agg #[.string a0_0, .string a0_1, .int .i64 a0_2, .int .i64 a0_3, .int .i64 a0_4], .pointer (some ⟨p1, 0, none⟩)] [.at_ ⟨p1, 0, none⟩ [.string a1_0, .string a1_1, .int .i64 a1_2, .int .i64 a1_3, .int .i64 a1_4]] (fun v G own => v = .bool r1 ∧ G = [] ∧ own = []) := by
  refine VCalls.intro Try.func67 rfl (len rfl) fun E hC hW hD hU => ?_
  unfold goods_Right_1.f at h
  refine VC.seq ?_
  refine VC.region ?_
  refine VL.sG (o_box rfl (.agg (.of rfl)) (ltn rfl)) rfl ?_
  intro g191
  refine VL.va (op_assign rfl (ltn rfl)) rfl ?_
  refine VL.done ?_
  refine VN.then ?_
  refine VC.seq ?_
  refine VC.region ?_
  refine VL.va (op_fieldAddr FI94_0 rfl (add_at _ _ _) (ltn rfl)) rfl ?_
  refine VL.va (op_load 0 1 rfl rfl TI9 rfl (by decide) (ltn rfl)) rfl ?_
  refine VL.va (op_fieldAddr FI94_0 rfl (add_at _ _ _) (ltn rfl)) rfl ?_
  refine VL.va (op_load_at (ad := ⟨p1, 0, none⟩) 0 0 1 (by first | rfl | exact congrArg (fun a => some (Value.pointer (some a))) (add_at _ 0 _).symm) rfl TI9 rfl (by decide) (ltn rfl)) rfl ?_
  refine VL.letter ((a0_0 == a1_0)) fun b195 hb195 => ?_
  refine VL.va (op_cmps rfl rfl (congrArg some hb195) (ltn rfl)) rfl ?_
  refine VL.va (op_move rfl (ltn rfl)) rfl ?_
  by_cases c196 : (a0_0 == a1_0) = true
  · rw [if_pos c196] at h
    obtain rfl : b195 = true := hb195.symm.trans (c196)
    refine VL.va (op_fieldAddr FI94_1 rfl (add_at _ _ _) (ltn rfl)) rfl ?_
    refine VL.va (op_load 0 1 rfl rfl TI9 rfl (by decide) (ltn rfl)) rfl ?_
    refine VL.va (op_fieldAddr FI94_1 rfl (add_at _ _ _) (ltn rfl)) rfl ?_
    refine VL.va (op_load_at (ad := ⟨p1, 0, none⟩) 0 1 1 (by first | rfl | exact congrArg (fun a => some (Value.pointer (some a))) (add_at _ 0 _).symm) rfl TI9 rfl (by decide) (ltn rfl)) rfl ?_
    refine VL.letter ((a0_1 == a1_1)) fun b197 hb197 => ?_
    refine VL.va (op_cmps rfl rfl (congrArg some hb197) (ltn rfl)) rfl ?_
    refine VL.va (op_pick rfl rfl (ltn rfl)) rfl ?_
    refine VL.va (op_assign rfl (ltn rfl)) rfl ?_
    refine VL.done ?_
    refine VN.then ?_
    refine VC.ret ?_
    obtain rfl := Option.some.inj h
    subst hb197
    exact VR.fn (rs := [.tmp 3]) [] [] [] rfl (.tmp rfl .nil) ⟨rfl, rfl, rfl⟩ trivial rfl (by decide)
  · rw [if_neg c196] at h
    obtain rfl : b195 = false := hb195.symm.trans (Bool.eq_false_iff.2 c196)
    refine VL.un rfl rfl (ltn rfl) ?_
    refine VL.un rfl rfl (ltn rfl) ?_
    refine VL.un rfl rfl (ltn rfl) ?_
    refine VL.un rfl rfl (ltn rfl) ?_
    refine VL.un rfl rfl (ltn rfl) ?_
    refine VL.va (op_pick rfl rfl (ltn rfl)) rfl ?_
    refine VL.va (op_assign rfl (ltn rfl)) rfl ?_
    refine VL.done ?_
    refine VN.then ?_
    refine VC.ret ?_
    obtain rfl := Option.some.inj h
    exact VR.fn (rs := [.tmp 3]) [] [] [] rfl (.tmp rfl .nil) ⟨rfl, rfl, rfl⟩ trivial rfl (by decide)
set_option maxHeartbeats 4000000 in
set_option maxRecDepth 100000 in
theorem slices_IndexFunc_api_Sub_api_Sub.ok (k : Nat) (l0 : List S93) (a1_0_0 : ByteArray) (a1_0_1 : ByteArray) (a1_0_2 : Int) (a1_0_3 : Int) (a1_0_4 : Int) (v0 : Value) (p1_0 : Nat) (r1 : Int) (h : slices_IndexFunc_api_Sub_api_Sub.f k l0 a1_0_0 a1_0_1 a1_0_2 a1_0_3 a1_0_4 = some r1) :
    VCalls Try.prog 84 [v0, (.func (.func 67) #[] #[.pointer (some ⟨p1_0, 0, none⟩)])] [.row v0 5 (l0.map enc93), .at_ ⟨p1_0, 0, none⟩ [.string a1_0_0, .string a1_0_1, .int .i64 a1_0_2, .int .i64 a1_0_3, .int .i64 a1_0_4]] (fun v G own => v = .int .i64 r1 ∧ G = [] ∧ own = []) := by
  refine VCalls.intro Try.func84 rfl (len rfl) fun E hC hW hD hU => ?_
  unfold slices_IndexFunc_api_Sub_api_Sub.f at h
  refine VC.seq ?_
  refine VC.region ?_
  refine VL.va (op_assign rfl (ltn rfl)) rfl ?_
  refine VL.done ?_
  refine VN.then ?_
  refine VC.seq ?_
  refine VC.seq ?_
  refine VC.region ?_
  refine VL.va (op_move rfl (ltn rfl)) rfl ?_
  refine VL.va (op_len (m := l0.length) 0 lenm Try.underlying73 rfl rfl (ltn rfl)) rfl ?_
  refine VL.va (op_move rfl (ltn rfl)) rfl ?_
  refine VL.done ?_
  refine VN.then ?_
  refine VC.block ?_
  refine VC.loop1 (fun (i257 : Int) => ⟨19, [(0, v0), (1, (.func (.func 67) #[] #[.pointer (some ⟨p1_0, 0, none⟩)])), (4, .int .i64 0), (7, .int .i64 (l0.length : Int)), (8, .int .i64 i257)], [.at_ ⟨p1_0, 0, none⟩ [.string a1_0_0, .string a1_0_1, .int .i64 a1_0_2, .int .i64 a1_0_3, .int .i64 a1_0_4], .row v0 5 (l0.map enc93)], [], []⟩) (fun (ml1 : Nat) (i257 : Int) => slices_IndexFunc_api_Sub_api_Sub.l1 k a1_0_0 a1_0_1 a1_0_2 a1_0_3 a1_0_4 l0 ml1 i257 = some r1) k 0 [] [] h ⟨rfl, ⟨rfl, rfl, rfl, rfl, rfl, trivial⟩, ⟨⟨1, rfl⟩, ⟨0, rfl⟩, trivial⟩, rfl, by decide, rfl, by decide⟩ (by intros; simp [slices_IndexFunc_api_Sub_api_Sub.l1]) ?_
  clear h
  intro ml1 ihl1 i257 h
  simp only [slices_IndexFunc_api_Sub_api_Sub.l1] at h
  refine VC.seq ?_
  refine VC.region ?_
  refine VL.letter (decide (i257 < (l0.length : Int))) fun b275 hb275 => ?_
  refine VL.va (op_cmp rfl rfl (congrArg some hb275) (ltn rfl)) rfl ?_
  refine VL.done ?_
  refine VN.then ?_
  refine VC.seq ?_
  by_cases c277 : i257 < (l0.length : Int)
  · rw [if_pos c277] at h
    obtain rfl : b275 = true := hb275.symm.trans (decide_eq_true c277)
    refine VC.cond_t rfl ?_
    refine VC.skip ?_
    refine VN.then ?_
    refine VC.seq ?_
    refine VC.block ?_
    refine VC.seq ?_
    refine VC.region ?_
    refine VL.va (op_move rfl (ltn rfl)) rfl ?_
    refine VL.va (op_assign rfl (ltn rfl)) rfl ?_
    refine VL.done ?_
    refine VN.then ?_
    refine VC.seq ?_
    refine VC.region ?_
    refine VL.va (op_move rfl (ltn rfl)) rfl ?_
    refine VL.va (op_move rfl (ltn rfl)) rfl ?_
    refine VL.va (op_move rfl (ltn rfl)) rfl ?_
    by_cases c285 : 0 ≤ i257
    · rw [if_pos c285] at h
      replace h := Option.bind_eq_some_iff.1 h
      obtain ⟨x286, hx286, h⟩ := h
      refine VL.open (m := l0.length) 1 lenm rfl (pos_get hx286) ?_
      rintro ad287 n288 rfl
      refine VL.va (op_indexAddr Try.underlying73 TI94 rfl rfl c285 (lt_get c285 hx286) rfl (ltn rfl)) rfl ?_
      refine VL.va (op_load_row (sz := 5) (o := 0) 1 i257.toNat 5 rfl rfl (get_map hx286) TI94 rfl (fun h => absurd h (by decide)) (ltn rfl)) rfl ?_
      replace h := Option.bind_eq_some_iff.1 h
      obtain ⟨t289, hA290, h⟩ := h
      refine VL.sC (o_call (vals := [.agg #[.string x286.f0, .string x286.f1, .int .i64 x286.f2, .int .i64 x286.f3, .int .i64 x286.f4]]) (caps := [.pointer (some ⟨p1_0, 0, none⟩)]) FO67 (goods_Right_1.ok x286.f0 x286.f1 x286.f2 x286.f3 x286.f4 a1_0_0 a1_0_1 a1_0_2 a1_0_3 a1_0_4 p1_0 t289 hA290) rfl rfl (ltn rfl) (All_of (.cons (List.mem_of_getElem? (i := 0) rfl) .nil))) rfl ?_
      rintro _ _ _ ⟨rfl, rfl, rfl⟩
      refine VL.done ?_
      refine VN.then ?_
      by_cases c291 : t289 = true
      · rw [if_pos c291] at h
        obtain rfl := c291
        refine VC.cond_t rfl ?_
        refine VC.seq ?_
        refine VC.region ?_
        refine VL.va (op_move rfl (ltn rfl)) rfl ?_
        refine VL.va (op_assign rfl (ltn rfl)) rfl ?_
        refine VL.done ?_
        refine VN.then ?_
        refine VC.ret ?_
        refine VR.block ?_
        refine VR.then ?_
        refine VR.then ?_
        refine VR.block ?_
        refine VR.then ?_
        obtain rfl := Option.some.inj h
        exact VR.fn (rs := [.tmp 4]) [] [] [] rfl (.tmp rfl .nil) ⟨rfl, rfl, rfl⟩ trivial rfl (by decide)
      · rw [if_neg c291] at h
        obtain rfl := Bool.eq_false_iff.2 c291
        refine VC.cond_f rfl ?_
        refine VC.skip ?_
        refine VN.block ?_
        refine VN.then ?_
        refine VC.region ?_
        refine VL.va (op_ari64 rfl rfl rfl (ltn rfl)) rfl ?_
        refine VL.va (op_move rfl (ltn rfl)) rfl ?_
        refine VL.done ?_
        refine VN.again [] [] (ihl1 (wrap64 (i257 + 1)) h) ⟨rfl, ⟨rfl, rfl, rfl, rfl, rfl, trivial⟩, ⟨⟨0, rfl⟩, ⟨1, rfl⟩, trivial⟩, rfl, by decide, rfl, by decide⟩
    · rw [if_neg c285] at h; cases h
  · rw [if_neg c277] at h
    obtain rfl : b275 = false := hb275.symm.trans (decide_eq_false c277)
    refine VC.cond_f rfl ?_
    refine VC.exit ?_
    refine VX.then ?_
    refine VX.then ?_
    refine VX.hit ?_
    refine VN.then ?_
    refine VC.seq ?_
    refine VC.region ?_
    refine VL.va (op_assign rfl (ltn rfl)) rfl ?_
    refine VL.done ?_
    refine VN.then ?_
    refine VC.ret ?_
    obtain rfl := Option.some.inj h
    exact VR.fn (rs := [.tmp 4]) [] [] [] rfl (.tmp rfl .nil) ⟨rfl, rfl, rfl⟩ trivial rfl (by decide)
set_option maxHeartbeats 4000000 in
set_option maxRecDepth 100000 in
theorem slices_ContainsFunc_api_Sub_api_Sub.ok (k : Nat) (l0 : List S93) (a1_0_0 : ByteArray) (a1_0_1 : ByteArray) (a1_0_2 : Int) (a1_0_3 : Int) (a1_0_4 : Int) (v0 : Value) (p1_0 : Nat) (r1 : Bool) (h : slices_ContainsFunc_api_Sub_api_Sub.f k l0 a1_0_0 a1_0_1 a1_0_2 a1_0_3 a1_0_4 = some r1) :
    VCalls Try.prog 66 [v0, (.func (.func 67) #[] #[.pointer (some ⟨p1_0, 0, none⟩)])] [.row v0 5 (l0.map enc93), .at_ ⟨p1_0, 0, none⟩ [.string a1_0_0, .string a1_0_1, .int .i64 a1_0_2, .int .i64 a1_0_3, .int .i64 a1_0_4]] (fun v G own => v = .bool r1 ∧ G = [] ∧ own = []) := by
  refine VCalls.intro Try.func66 rfl (len rfl) fun E hC hW hD hU => ?_
  unfold slices_ContainsFunc_api_Sub_api_Sub.f at h
  refine VC.seq ?_
  refine VC.region ?_
  refine VL.va (op_assign rfl (ltn rfl)) rfl ?_
  refine VL.done ?_
  refine VN.then ?_
  refine VC.seq ?_
  refine VC.region ?_
  refine VL.va (op_move rfl (ltn rfl)) rfl ?_
  refine VL.va (op_move rfl (ltn rfl)) rfl ?_
  replace h := Option.bind_eq_some_iff.1 h
  obtain ⟨t292, hA293, h⟩ := h
  refine VL.sC (o_call0 FO84 (slices_IndexFunc_api_Sub_api_Sub.ok k l0 a1_0_0 a1_0_1 a1_0_2 a1_0_3 a1_0_4 v0 p1_0 t292 hA293) rfl rfl (ltn rfl) (All_of (.cons (List.mem_of_getElem? (i := 0) rfl) (.cons (List.mem_of_getElem? (i := 1) rfl) .nil)))) rfl ?_
  rintro _ _ _ ⟨rfl, rfl, rfl⟩
  refine VL.letter (decide (t292 ≥ 0)) fun b294 hb294 => ?_
  refine VL.va (op_cmp rfl rfl (congrArg some hb294) (ltn rfl)) rfl ?_
  refine VL.va (op_assign rfl (ltn rfl)) rfl ?_
  refine VL.done ?_
  refine VN.then ?_
  refine VC.ret ?_
  obtain rfl := Option.some.inj h
  subst hb294
  exact VR.fn (rs := [.tmp 4]) [] [] [] rfl (.tmp rfl .nil) ⟨rfl, rfl, rfl⟩ trivial rfl (by decide)
set_option maxHeartbeats 4000000 in
set_option maxRecDepth 100000 in
theorem goods_name_1.ok (a0 : Int)  (r1 : Bool) (h : goods_name_1.f a0 = some r1) :
    VCalls Try.prog 88 [.int .u8 a0] [] (fun v G own => v = .bool r1 ∧ G = [] ∧ own = []) := by
  refine VCalls.intro Try.func88 rfl (len rfl) fun E hC hW hD hU => ?_
  unfold goods_name_1.f at h
  refine VC.seq ?_
  refine VC.region ?_
  refine VL.va (op_assign rfl (ltn rfl)) rfl ?_
  refine VL.done ?_
  refine VN.then ?_
  refine VC.seq ?_
  refine VC.region ?_
  refine VL.va (op_move rfl (ltn rfl)) rfl ?_
  refine VL.letter (decide (a0 < 97)) fun b324 hb324 => ?_
  refine VL.va (op_cmp rfl rfl (congrArg some hb324) (ltn rfl)) rfl ?_
  refine VL.va (op_move rfl (ltn rfl)) rfl ?_
  by_cases c325 : a0 < 97
  · rw [if_pos c325] at h
    obtain rfl : b324 = true := hb324.symm.trans (decide_eq_true c325)
    refine VL.un rfl rfl (ltn rfl) ?_
    refine VL.un rfl rfl (ltn rfl) ?_
    refine VL.va (op_pick rfl rfl (ltn rfl)) rfl ?_
    refine VL.va (op_move rfl (ltn rfl)) rfl ?_
    refine VL.va (op_move rfl (ltn rfl)) rfl ?_
    refine VL.letter (decide (a0 < 48)) fun b326 hb326 => ?_
    refine VL.va (op_cmp rfl rfl (congrArg some hb326) (ltn rfl)) rfl ?_
    refine VL.va (op_move rfl (ltn rfl)) rfl ?_
    by_cases c327 : a0 < 48
    · rw [if_pos c327] at h
      obtain rfl : b326 = true := hb326.symm.trans (decide_eq_true c327)
      refine VL.un rfl rfl (ltn rfl) ?_
      refine VL.un rfl rfl (ltn rfl) ?_
      refine VL.va (op_pick rfl rfl (ltn rfl)) rfl ?_
      refine VL.va (op_pick rfl rfl (ltn rfl)) rfl ?_
      refine VL.va (op_assign rfl (ltn rfl)) rfl ?_
      refine VL.done ?_
      refine VN.then ?_
      refine VC.ret ?_
      obtain rfl := Option.some.inj h
      exact VR.fn (rs := [.tmp 2]) [] [] [] rfl (.tmp rfl .nil) ⟨rfl, rfl, rfl⟩ trivial rfl (by decide)
    · rw [if_neg c327] at h
      obtain rfl : b326 = false := hb326.symm.trans (decide_eq_false c327)
      refine VL.va (op_move rfl (ltn rfl)) rfl ?_
      refine VL.letter (decide (a0 > 57)) fun b328 hb328 => ?_
      refine VL.va (op_cmp rfl rfl (congrArg some hb328) (ltn rfl)) rfl ?_
      refine VL.va (op_pick rfl rfl (ltn rfl)) rfl ?_
      refine VL.va (op_pick rfl rfl (ltn rfl)) rfl ?_
      refine VL.va (op_assign rfl (ltn rfl)) rfl ?_
      refine VL.done ?_
      refine VN.then ?_
      refine VC.ret ?_
      obtain rfl := Option.some.inj h
      subst hb328
      exact VR.fn (rs := [.tmp 2]) [] [] [] rfl (.tmp rfl .nil) ⟨rfl, rfl, rfl⟩ trivial rfl (by decide)
  · rw [if_neg c325] at h
    obtain rfl : b324 = false := hb324.symm.trans (decide_eq_false c325)
    refine VL.va (op_move rfl (ltn rfl)) rfl ?_
    refine VL.letter (decide (a0 > 122)) fun b329 hb329 => ?_
    refine VL.va (op_cmp rfl rfl (congrArg some hb329) (ltn rfl)) rfl ?_
    refine VL.va (op_pick rfl rfl (ltn rfl)) rfl ?_
    refine VL.va (op_move rfl (ltn rfl)) rfl ?_
    by_cases c330 : a0 > 122
    · rw [if_pos c330] at h
      obtain rfl : b329 = true := hb329.symm.trans (decide_eq_true c330)
      refine VL.va (op_move rfl (ltn rfl)) rfl ?_
      refine VL.letter (decide (a0 < 48)) fun b331 hb331 => ?_
      refine VL.va (op_cmp rfl rfl (congrArg some hb331) (ltn rfl)) rfl ?_
      refine VL.va (op_move rfl (ltn rfl)) rfl ?_
      by_cases c332 : a0 < 48
      · rw [if_pos c332] at h
        obtain rfl : b331 = true := hb331.symm.trans (decide_eq_true c332)
        refine VL.un rfl rfl (ltn rfl) ?_
        refine VL.un rfl rfl (ltn rfl) ?_
        refine VL.va (op_pick rfl rfl (ltn rfl)) rfl ?_
        refine VL.va (op_pick rfl rfl (ltn rfl)) rfl ?_
        refine VL.va (op_assign rfl (ltn rfl)) rfl ?_
        refine VL.done ?_
        refine VN.then ?_
        refine VC.ret ?_
        obtain rfl := Option.some.inj h
        exact VR.fn (rs := [.tmp 2]) [] [] [] rfl (.tmp rfl .nil) ⟨rfl, rfl, rfl⟩ trivial rfl (by decide)
      · rw [if_neg c332] at h
        obtain rfl : b331 = false := hb331.symm.trans (decide_eq_false c332)
        refine VL.va (op_move rfl (ltn rfl)) rfl ?_
        refine VL.letter (decide (a0 > 57)) fun b333 hb333 => ?_
        refine VL.va (op_cmp rfl rfl (congrArg some hb333) (ltn rfl)) rfl ?_
        refine VL.va (op_pick rfl rfl (ltn rfl)) rfl ?_
        refine VL.va (op_pick rfl rfl (ltn rfl)) rfl ?_
        refine VL.va (op_assign rfl (ltn rfl)) rfl ?_
        refine VL.done ?_
        refine VN.then ?_
        refine VC.ret ?_
        obtain rfl := Option.some.inj h
        subst hb333
        exact VR.fn (rs := [.tmp 2]) [] [] [] rfl (.tmp rfl .nil) ⟨rfl, rfl, rfl⟩ trivial rfl (by decide)
    · rw [if_neg c330] at h
      obtain rfl : b329 = false := hb329.symm.trans (decide_eq_false c330)
      refine VL.un rfl rfl (ltn rfl) ?_
      refine VL.un rfl rfl (ltn rfl) ?_
      refine VL.un rfl rfl (ltn rfl) ?_
      refine VL.un rfl rfl (ltn rfl) ?_
      refine VL.un rfl rfl (ltn rfl) ?_
      refine VL.un rfl rfl (ltn rfl) ?_
      refine VL.va (op_pick rfl rfl (ltn rfl)) rfl ?_
      refine VL.va (op_assign rfl (ltn rfl)) rfl ?_
      refine VL.done ?_
      refine VN.then ?_
      refine VC.ret ?_
      obtain rfl := Option.some.inj h
      exact VR.fn (rs := [.tmp 2]) [] [] [] rfl (.tmp rfl .nil) ⟨rfl, rfl, rfl⟩ trivial rfl (by decide)
set_option maxHeartbeats 4000000 in
set_option maxRecDepth 100000 in
theorem slices_IndexFunc_byte_byte.ok (k : Nat) (l0 : List Int) (v0 : Value) (r1 : Int) (h : slices_IndexFunc_byte_byte.f k l0 = some r1) :
    VCalls Try.prog 94 [v0, (.func (.func 88) #[] #[])] [.row v0 1 (l0.map enc_intu8)] (fun v G own => v = .int .i64 r1 ∧ G = [] ∧ own = []) := by
  refine VCalls.intro Try.func94 rfl (len rfl) fun E hC hW hD hU => ?_
  unfold slices_IndexFunc_byte_byte.f at h
  refine VC.seq ?_
  refine VC.region ?_
  refine VL.va (op_assign rfl (ltn rfl)) rfl ?_
  refine VL.done ?_
  refine VN.then ?_
  refine VC.seq ?_
  refine VC.seq ?_
  refine VC.region ?_
  refine VL.va (op_move rfl (ltn rfl)) rfl ?_
  refine VL.va (op_len (m := l0.length) 0 lenm Try.underlying115 rfl rfl (ltn rfl)) rfl ?_
  refine VL.va (op_move rfl (ltn rfl)) rfl ?_
  refine VL.done ?_
  refine VN.then ?_
  refine VC.block ?_
  refine VC.loop1 (fun (i393 : Int) => ⟨19, [(0, v0), (1, (.func (.func 88) #[] #[])), (4, .int .i64 0), (7, .int .i64 (l0.length : Int)), (8, .int .i64 i393)], [.row v0 1 (l0.map enc_intu8)], [], []⟩) (fun (ml1 : Nat) (i393 : Int) => slices_IndexFunc_byte_byte.l1 k l0 ml1 i393 = some r1) k 0 [] [] h ⟨rfl, ⟨rfl, rfl, rfl, rfl, rfl, trivial⟩, ⟨⟨0, rfl⟩, trivial⟩, rfl, by decide, rfl, by decide⟩ (by intros; simp [slices_IndexFunc_byte_byte.l1]) ?_
  clear h
  intro ml1 ihl1 i393 h
  simp only [slices_IndexFunc_byte_byte.l1] at h
  refine VC.seq ?_
  refine VC.region ?_
  refine VL.letter (decide (i393 < (l0.length : Int))) fun b411 hb411 => ?_
  refine VL.va (op_cmp rfl rfl (congrArg some hb411) (ltn rfl)) rfl ?_
  refine VL.done ?_
  refine VN.then ?_
  refine VC.seq ?_
  by_cases c413 : i393 < (l0.length : Int)
  · rw [if_pos c413] at h
    obtain rfl : b411 = true := hb411.symm.trans (decide_eq_true c413)
    refine VC.cond_t rfl ?_
    refine VC.skip ?_
    refine VN.then ?_
    refine VC.seq ?_
    refine VC.block ?_
    refine VC.seq ?_
    refine VC.region ?_
    refine VL.va (op_move rfl (ltn rfl)) rfl ?_
    refine VL.va (op_assign rfl (ltn rfl)) rfl ?_
    refine VL.done ?_
    refine VN.then ?_
    refine VC.seq ?_
    refine VC.region ?_
    refine VL.va (op_move rfl (ltn rfl)) rfl ?_
    refine VL.va (op_move rfl (ltn rfl)) rfl ?_
    refine VL.va (op_move rfl (ltn rfl)) rfl ?_
    by_cases c421 : 0 ≤ i393
    · rw [if_pos c421] at h
      replace h := Option.bind_eq_some_iff.1 h
      obtain ⟨x422, hx422, h⟩ := h
      refine VL.open (m := l0.length) 0 lenm rfl (pos_get hx422) ?_
      rintro ad423 n424 rfl
      refine VL.va (op_indexAddr Try.underlying115 TI5 rfl rfl c421 (lt_get c421 hx422) rfl (ltn rfl)) rfl ?_
      refine VL.va (op_load_row (sz := 1) (o := 0) 0 i393.toNat 1 rfl rfl (get_map hx422) TI5 rfl (by decide) (ltn rfl)) rfl ?_
      replace h := Option.bind_eq_some_iff.1 h
      obtain ⟨t425, hA426, h⟩ := h
      refine VL.sC (o_call0 FO88 (goods_name_1.ok x422 t425 hA426) rfl rfl (ltn rfl) (All_of .nil)) rfl ?_
      rintro _ _ _ ⟨rfl, rfl, rfl⟩
      refine VL.done ?_
      refine VN.then ?_
      by_cases c427 : t425 = true
      · rw [if_pos c427] at h
        obtain rfl := c427
        refine VC.cond_t rfl ?_
        refine VC.seq ?_
        refine VC.region ?_
        refine VL.va (op_move rfl (ltn rfl)) rfl ?_
        refine VL.va (op_assign rfl (ltn rfl)) rfl ?_
        refine VL.done ?_
        refine VN.then ?_
        refine VC.ret ?_
        refine VR.block ?_
        refine VR.then ?_
        refine VR.then ?_
        refine VR.block ?_
        refine VR.then ?_
        obtain rfl := Option.some.inj h
        exact VR.fn (rs := [.tmp 4]) [] [] [] rfl (.tmp rfl .nil) ⟨rfl, rfl, rfl⟩ trivial rfl (by decide)
      · rw [if_neg c427] at h
        obtain rfl := Bool.eq_false_iff.2 c427
        refine VC.cond_f rfl ?_
        refine VC.skip ?_
        refine VN.block ?_
        refine VN.then ?_
        refine VC.region ?_
        refine VL.va (op_ari64 rfl rfl rfl (ltn rfl)) rfl ?_
        refine VL.va (op_move rfl (ltn rfl)) rfl ?_
        refine VL.done ?_
        refine VN.again [] [] (ihl1 (wrap64 (i393 + 1)) h) ⟨rfl, ⟨rfl, rfl, rfl, rfl, rfl, trivial⟩, ⟨⟨0, rfl⟩, trivial⟩, rfl, by decide, rfl, by decide⟩
    · rw [if_neg c421] at h; cases h
  · rw [if_neg c413] at h
    obtain rfl : b411 = false := hb411.symm.trans (decide_eq_false c413)
    refine VC.cond_f rfl ?_
    refine VC.exit ?_
    refine VX.then ?_
    refine VX.then ?_
    refine VX.hit ?_
    refine VN.then ?_
    refine VC.seq ?_
    refine VC.region ?_
    refine VL.va (op_assign rfl (ltn rfl)) rfl ?_
    refine VL.done ?_
    refine VN.then ?_
    refine VC.ret ?_
    obtain rfl := Option.some.inj h
    exact VR.fn (rs := [.tmp 4]) [] [] [] rfl (.tmp rfl .nil) ⟨rfl, rfl, rfl⟩ trivial rfl (by decide)
set_option maxHeartbeats 4000000 in
set_option maxRecDepth 100000 in
theorem slices_ContainsFunc_byte_byte.ok (k : Nat) (l0 : List Int) (v0 : Value) (r1 : Bool) (h : slices_ContainsFunc_byte_byte.f k l0 = some r1) :
    VCalls Try.prog 89 [v0, (.func (.func 88) #[] #[])] [.row v0 1 (l0.map enc_intu8)] (fun v G own => v = .bool r1 ∧ G = [] ∧ own = []) := by
  refine VCalls.intro Try.func89 rfl (len rfl) fun E hC hW hD hU => ?_
  unfold slices_ContainsFunc_byte_byte.f at h
  refine VC.seq ?_
  refine VC.region ?_
  refine VL.va (op_assign rfl (ltn rfl)) rfl ?_
  refine VL.done ?_
  refine VN.then ?_
  refine VC.seq ?_
  refine VC.region ?_
  refine VL.va (op_move rfl (ltn rfl)) rfl ?_
  refine VL.va (op_move rfl (ltn rfl)) rfl ?_
  replace h := Option.bind_eq_some_iff.1 h
  obtain ⟨t428, hA429, h⟩ := h
  refine VL.sC (o_call0 FO94 (slices_IndexFunc_byte_byte.ok k l0 v0 t428 hA429) rfl rfl (ltn rfl) (All_of (.cons (List.mem_of_getElem? (i := 0) rfl) .nil))) rfl ?_
  rintro _ _ _ ⟨rfl, rfl, rfl⟩
  refine VL.letter (decide (t428 ≥ 0)) fun b430 hb430 => ?_
  refine VL.va (op_cmp rfl rfl (congrArg some hb430) (ltn rfl)) rfl ?_
  refine VL.va (op_assign rfl (ltn rfl)) rfl ?_
  refine VL.done ?_
  refine VN.then ?_
  refine VC.ret ?_
  obtain rfl := Option.some.inj h
  subst hb430
  exact VR.fn (rs := [.tmp 4]) [] [] [] rfl (.tmp rfl .nil) ⟨rfl, rfl, rfl⟩ trivial rfl (by decide)
set_option maxHeartbeats 4000000 in
set_option maxRecDepth 100000 in
theorem goods_name.ok (k : Nat) (a0 : ByteArray)  (r1 : Bool) (h : goods_name.f k a0 = some r1) :
    VCalls Try.prog 72 [.string a0] [] (fun v G own => v = .bool r1 ∧ G = [] ∧ own = []) := by
  refine VCalls.intro Try.func72 rfl (len rfl) fun E hC hW hD hU => ?_
  unfold goods_name.f at h
  refine VC.seq ?_
  refine VC.region ?_
  refine VL.va (op_assign rfl (ltn rfl)) rfl ?_
  refine VL.done ?_
  refine VN.then ?_
  refine VC.seq ?_
  refine VC.region ?_
  refine VL.va (op_assign rfl (ltn rfl)) rfl ?_
  refine VL.done ?_
  refine VN.then ?_
  refine VC.seq ?_
  refine VC.region ?_
  refine VL.va (op_move rfl (ltn rfl)) rfl ?_
  refine VL.letter ((a0 != (⟨#[]⟩ : ByteArray))) fun b434 hb434 => ?_
  refine VL.va (op_cmps rfl rfl (congrArg some hb434) (ltn rfl)) rfl ?_
  refine VL.va (op_move rfl (ltn rfl)) rfl ?_
  by_cases c435 : (a0 == (⟨#[]⟩ : ByteArray)) = true
  · rw [if_pos c435] at h
    obtain rfl : b434 = false := hb434.symm.trans (bne_of_t c435)
    refine VL.un rfl rfl (ltn rfl) ?_
    refine VL.un rfl rfl (ltn rfl) ?_
    refine VL.un rfl rfl (ltn rfl) ?_
    refine VL.va (op_pick rfl rfl (ltn rfl)) rfl ?_
    refine VL.va (op_move rfl (ltn rfl)) rfl ?_
    refine VL.un rfl rfl (ltn rfl) ?_
    refine VL.un rfl rfl (ltn rfl) ?_
    refine VL.un rfl rfl (ltn rfl) ?_
    refine VL.un rfl rfl (ltn rfl) ?_
    refine VL.un rfl rfl (ltn rfl) ?_
    refine VL.va (op_pick rfl rfl (ltn rfl)) rfl ?_
    refine VL.va (op_assign rfl (ltn rfl)) rfl ?_
    refine VL.done ?_
    refine VN.then ?_
    refine VC.ret ?_
    obtain rfl := Option.some.inj h
    exact VR.fn (rs := [.tmp 2]) [] [] [] rfl (.tmp rfl .nil) ⟨rfl, rfl, rfl⟩ trivial rfl (by decide)
  · rw [if_neg c435] at h
    obtain rfl : b434 = true := hb434.symm.trans (bne_of_f c435)
    refine VL.va (op_move rfl (ltn rfl)) rfl ?_
    refine VL.va (op_lens Try.underlying9 rfl (ltn rfl)) rfl ?_
    refine VL.letter (decide ((a0.size : Int) ≤ 16)) fun b436 hb436 => ?_
    refine VL.va (op_cmp rfl rfl (congrArg some hb436) (ltn rfl)) rfl ?_
    refine VL.va (op_pick rfl rfl (ltn rfl)) rfl ?_
    refine VL.va (op_move rfl (ltn rfl)) rfl ?_
    by_cases c437 : (a0.size : Int) ≤ 16
    · rw [if_pos c437] at h
      obtain rfl : b436 = true := hb436.symm.trans (decide_eq_true c437)
      refine VL.va (op_move rfl (ltn rfl)) rfl ?_
      by_cases c438 : a0.size ≤ 140737488355328
      · rw [if_pos c438] at h
        refine VL.sG (o_strBytes (es3 := List.map enc_intu8 (byI a0)) rfl Try.underlying9 Try.underlying115 Try.underlying5 rfl c438 (ltn rfl)) rfl ?_
        intro v440
        refine VL.va (op_move rfl (ltn rfl)) rfl ?_
        replace h := Option.bind_eq_some_iff.1 h
        obtain ⟨t441, hA442, h⟩ := h
        refine VL.sC (o_call0 FO89 (slices_ContainsFunc_byte_byte.ok k (byI a0) v440 t441 hA442) rfl rfl (ltn rfl) (All_of (.cons (List.mem_of_getElem? (i := 0) rfl) .nil))) rfl ?_
        rintro _ _ _ ⟨rfl, rfl, rfl⟩
        by_cases c443 : t441 = true
        · rw [if_pos c443] at h
          obtain rfl := c443
          refine VL.va (op_not rfl rfl (ltn rfl)) rfl ?_
          refine VL.va (op_pick rfl rfl (ltn rfl)) rfl ?_
          refine VL.va (op_assign rfl (ltn rfl)) rfl ?_
          refine VL.done ?_
          refine VN.then ?_
          refine VC.ret ?_
          obtain rfl := Option.some.inj h
          exact VR.fn (rs := [.tmp 2]) [] [] [] rfl (.tmp rfl .nil) ⟨rfl, rfl, rfl⟩ trivial rfl (by decide)
        · rw [if_neg c443] at h
          obtain rfl := Bool.eq_false_iff.2 c443
          refine VL.va (op_not rfl rfl (ltn rfl)) rfl ?_
          refine VL.va (op_pick rfl rfl (ltn rfl)) rfl ?_
          refine VL.va (op_assign rfl (ltn rfl)) rfl ?_
          refine VL.done ?_
          refine VN.then ?_
          refine VC.ret ?_
          obtain rfl := Option.some.inj h
          exact VR.fn (rs := [.tmp 2]) [] [] [] rfl (.tmp rfl .nil) ⟨rfl, rfl, rfl⟩ trivial rfl (by decide)
      · rw [if_neg c438] at h; cases h
    · rw [if_neg c437] at h
      obtain rfl : b436 = false := hb436.symm.trans (decide_eq_false c437)
      refine VL.un rfl rfl (ltn rfl) ?_
      refine VL.un rfl rfl (ltn rfl) ?_
      refine VL.un rfl rfl (ltn rfl) ?_
      refine VL.un rfl rfl (ltn rfl) ?_
      refine VL.un rfl rfl (ltn rfl) ?_
      refine VL.va (op_pick rfl rfl (ltn rfl)) rfl ?_
      refine VL.va (op_assign rfl (ltn rfl)) rfl ?_
      refine VL.done ?_
      refine VN.then ?_
      refine VC.ret ?_
      obtain rfl := Option.some.inj h
      exact VR.fn (rs := [.tmp 2]) [] [] [] rfl (.tmp rfl .nil) ⟨rfl, rfl, rfl⟩ trivial rfl (by decide)
set_option maxHeartbeats 4000000 in
set_option maxRecDepth 100000 in
theorem goods_in.ok (a0 : Int) (a1 : Int)  (r1 : Bool) (h : goods_in.f a0 a1 = some r1) :
    VCalls Try.prog 85 [.int .i64 a0, .int .i64 a1] [] (fun v G own => v = .bool r1 ∧ G = [] ∧ own = []) := by
  refine VCalls.intro Try.func85 rfl (len rfl) fun E hC hW hD hU => ?_
  unfold goods_in.f at h
  refine VC.seq ?_
  refine VC.region ?_
  refine VL.va (op_assign rfl (ltn rfl)) rfl ?_
  refine VL.done ?_
  refine VN.then ?_
  refine VC.seq ?_
  refine VC.region ?_
  refine VL.va (op_move rfl (ltn rfl)) rfl ?_
  refine VL.letter (decide (a0 ≥ 1)) fun b455 hb455 => ?_
  refine VL.va (op_cmp rfl rfl (congrArg some hb455) (ltn rfl)) rfl ?_
  refine VL.va (op_move rfl (ltn rfl)) rfl ?_
  by_cases c456 : a0 ≥ 1
  · rw [if_pos c456] at h
    obtain rfl : b455 = true := hb455.symm.trans (decide_eq_true c456)
    refine VL.va (op_move rfl (ltn rfl)) rfl ?_
    refine VL.va (op_move rfl (ltn rfl)) rfl ?_
    refine VL.letter (decide (a0 ≤ a1)) fun b457 hb457 => ?_
    refine VL.va (op_cmp rfl rfl (congrArg some hb457) (ltn rfl)) rfl ?_
    refine VL.va (op_pick rfl rfl (ltn rfl)) rfl ?_
    refine VL.va (op_assign rfl (ltn rfl)) rfl ?_
    refine VL.done ?_
    refine VN.then ?_
    refine VC.ret ?_
    obtain rfl := Option.some.inj h
    subst hb457
    exact VR.fn (rs := [.tmp 4]) [] [] [] rfl (.tmp rfl .nil) ⟨rfl, rfl, rfl⟩ trivial rfl (by decide)
  · rw [if_neg c456] at h
    obtain rfl : b455 = false := hb455.symm.trans (decide_eq_false c456)
    refine VL.un rfl rfl (ltn rfl) ?_
    refine VL.un rfl rfl (ltn rfl) ?_
    refine VL.un rfl rfl (ltn rfl) ?_
    refine VL.va (op_pick rfl rfl (ltn rfl)) rfl ?_
    refine VL.va (op_assign rfl (ltn rfl)) rfl ?_
    refine VL.done ?_
    refine VN.then ?_
    refine VC.ret ?_
    obtain rfl := Option.some.inj h
    exact VR.fn (rs := [.tmp 4]) [] [] [] rfl (.tmp rfl .nil) ⟨rfl, rfl, rfl⟩ trivial rfl (by decide)
set_option maxHeartbeats 4000000 in
set_option maxRecDepth 100000 in
theorem goods_may.ok (k : Nat) (a0_0 : ByteArray) (a0_1 : ByteArray) (a0_2 : Int) (a0_3 : Int) (a0_4 : Int)  (r1 : Bool) (h : goods_may.f k a0_0 a0_1 a0_2 a0_3 a0_4 = some r1) :
    VCalls Try.prog 68 [.agg #[.string a0_0, .string a0_1, .int .i64 a0_2, .int .i64 a0_3, .int .i64 a0_4]] [] (fun v G own => v = .bool r1 ∧ G = [] ∧ own = []) := by
  refine VCalls.intro Try.func68 rfl (len rfl) fun E hC hW hD hU => ?_
  unfold goods_may.f at h
  refine VC.seq ?_
  refine VC.region ?_
  refine VL.sG (o_box rfl (.agg (.of rfl)) (ltn rfl)) rfl ?_
  intro g298
  refine VL.va (op_assign rfl (ltn rfl)) rfl ?_
  refine VL.done ?_
  refine VN.then ?_
  refine VC.seq ?_
  refine VC.region ?_
  refine VL.va (op_fieldAddr FI94_0 rfl (add_at _ _ _) (ltn rfl)) rfl ?_
  refine VL.va (op_load 0 1 rfl rfl TI9 rfl (by decide) (ltn rfl)) rfl ?_
  replace h := Option.bind_eq_some_iff.1 h
  obtain ⟨t466, hA467, h⟩ := h
  refine VL.sC (o_call0 FO72 (goods_name.ok k a0_0 t466 hA467) rfl rfl (ltn rfl) (All_of .nil)) rfl ?_
  rintro _ _ _ ⟨rfl, rfl, rfl⟩
  refine VL.va (op_move rfl (ltn rfl)) rfl ?_
  by_cases c468 : t466 = true
  · rw [if_pos c468] at h
    obtain rfl := c468
    refine VL.va (op_fieldAddr FI94_1 rfl (add_at _ _ _) (ltn rfl)) rfl ?_
    refine VL.va (op_load 0 1 rfl rfl TI9 rfl (by decide) (ltn rfl)) rfl ?_
    replace h := Option.bind_eq_some_iff.1 h
    obtain ⟨t469, hA470, h⟩ := h
    refine VL.sC (o_call0 FO72 (goods_name.ok k a0_1 t469 hA470) rfl rfl (ltn rfl) (All_of .nil)) rfl ?_
    rintro _ _ _ ⟨rfl, rfl, rfl⟩
    refine VL.va (op_pick rfl rfl (ltn rfl)) rfl ?_
    refine VL.va (op_move rfl (ltn rfl)) rfl ?_
    by_cases c471 : t469 = true
    · rw [if_pos c471] at h
      obtain rfl := c471
      refine VL.va (op_fieldAddr FI94_0 rfl (add_at _ _ _) (ltn rfl)) rfl ?_
      refine VL.va (op_load 0 1 rfl rfl TI9 rfl (by decide) (ltn rfl)) rfl ?_
      refine VL.va (op_fieldAddr FI94_1 rfl (add_at _ _ _) (ltn rfl)) rfl ?_
      refine VL.va (op_load 0 1 rfl rfl TI9 rfl (by decide) (ltn rfl)) rfl ?_
      refine VL.letter ((a0_0 != a0_1)) fun b472 hb472 => ?_
      refine VL.va (op_cmps rfl rfl (congrArg some hb472) (ltn rfl)) rfl ?_
      refine VL.va (op_pick rfl rfl (ltn rfl)) rfl ?_
      refine VL.va (op_move rfl (ltn rfl)) rfl ?_
      by_cases c473 : (a0_0 == a0_1) = true
      · rw [if_pos c473] at h
        obtain rfl : b472 = false := hb472.symm.trans (bne_of_t c473)
        refine VL.un rfl rfl (ltn rfl) ?_
        refine VL.un rfl rfl (ltn rfl) ?_
        refine VL.un rfl rfl (ltn rfl) ?_
        refine VL.va (op_pick rfl rfl (ltn rfl)) rfl ?_
        refine VL.va (op_move rfl (ltn rfl)) rfl ?_
        refine VL.un rfl rfl (ltn rfl) ?_
        refine VL.un rfl rfl (ltn rfl) ?_
        refine VL.un rfl rfl (ltn rfl) ?_
        refine VL.va (op_pick rfl rfl (ltn rfl)) rfl ?_
        refine VL.va (op_move rfl (ltn rfl)) rfl ?_
        refine VL.un rfl rfl (ltn rfl) ?_
        refine VL.un rfl rfl (ltn rfl) ?_
        refine VL.un rfl rfl (ltn rfl) ?_
        refine VL.va (op_pick rfl rfl (ltn rfl)) rfl ?_
        refine VL.va (op_assign rfl (ltn rfl)) rfl ?_
        refine VL.done ?_
        refine VN.then ?_
        refine VC.ret ?_
        obtain rfl := Option.some.inj h
        exact VR.fn (rs := [.tmp 2]) [] [] [] rfl (.tmp rfl .nil) ⟨rfl, rfl, rfl⟩ trivial rfl (by decide)
      · rw [if_neg c473] at h
        obtain rfl : b472 = true := hb472.symm.trans (bne_of_f c473)
        refine VL.va (op_fieldAddr FI94_2 rfl (add_at _ _ _) (ltn rfl)) rfl ?_
        refine VL.va (op_load 0 1 rfl rfl TI3 rfl (by decide) (ltn rfl)) rfl ?_
        replace h := Option.bind_eq_some_iff.1 h
        obtain ⟨t474, hA475, h⟩ := h
        refine VL.sC (o_call0 FO85 (goods_in.ok a0_2 9 t474 hA475) rfl rfl (ltn rfl) (All_of .nil)) rfl ?_
        rintro _ _ _ ⟨rfl, rfl, rfl⟩
        refine VL.va (op_pick rfl rfl (ltn rfl)) rfl ?_
        refine VL.va (op_move rfl (ltn rfl)) rfl ?_
        by_cases c476 : t474 = true
        · rw [if_pos c476] at h
          obtain rfl := c476
          refine VL.va (op_fieldAddr FI94_3 rfl (add_at _ _ _) (ltn rfl)) rfl ?_
          refine VL.va (op_load 0 1 rfl rfl TI3 rfl (by decide) (ltn rfl)) rfl ?_
          replace h := Option.bind_eq_some_iff.1 h
          obtain ⟨t477, hA478, h⟩ := h
          refine VL.sC (o_call0 FO85 (goods_in.ok a0_3 100 t477 hA478) rfl rfl (ltn rfl) (All_of .nil)) rfl ?_
          rintro _ _ _ ⟨rfl, rfl, rfl⟩
          refine VL.va (op_pick rfl rfl (ltn rfl)) rfl ?_
          refine VL.va (op_move rfl (ltn rfl)) rfl ?_
          by_cases c479 : t477 = true
          · rw [if_pos c479] at h
            obtain rfl := c479
            refine VL.va (op_fieldAddr FI94_4 rfl (add_at _ _ _) (ltn rfl)) rfl ?_
            refine VL.va (op_load 0 1 rfl rfl TI3 rfl (by decide) (ltn rfl)) rfl ?_
            replace h := Option.bind_eq_some_iff.1 h
            obtain ⟨t480, hA481, h⟩ := h
            refine VL.sC (o_call0 FO85 (goods_in.ok a0_4 100 t480 hA481) rfl rfl (ltn rfl) (All_of .nil)) rfl ?_
            rintro _ _ _ ⟨rfl, rfl, rfl⟩
            refine VL.va (op_pick rfl rfl (ltn rfl)) rfl ?_
            refine VL.va (op_assign rfl (ltn rfl)) rfl ?_
            refine VL.done ?_
            refine VN.then ?_
            refine VC.ret ?_
            obtain rfl := Option.some.inj h
            exact VR.fn (rs := [.tmp 2]) [] [] [] rfl (.tmp rfl .nil) ⟨rfl, rfl, rfl⟩ trivial rfl (by decide)
          · rw [if_neg c479] at h
            obtain rfl := Bool.eq_false_iff.2 c479
            refine VL.un rfl rfl (ltn rfl) ?_
            refine VL.un rfl rfl (ltn rfl) ?_
            refine VL.un rfl rfl (ltn rfl) ?_
            refine VL.va (op_pick rfl rfl (ltn rfl)) rfl ?_
            refine VL.va (op_assign rfl (ltn rfl)) rfl ?_
            refine VL.done ?_
            refine VN.then ?_
            refine VC.ret ?_
            obtain rfl := Option.some.inj h
            exact VR.fn (rs := [.tmp 2]) [] [] [] rfl (.tmp rfl .nil) ⟨rfl, rfl, rfl⟩ trivial rfl (by decide)
        · rw [if_neg c476] at h
          obtain rfl := Bool.eq_false_iff.2 c476
          refine VL.un rfl rfl (ltn rfl) ?_
          refine VL.un rfl rfl (ltn rfl) ?_
          refine VL.un rfl rfl (ltn rfl) ?_
          refine VL.va (op_pick rfl rfl (ltn rfl)) rfl ?_
          refine VL.va (op_move rfl (ltn rfl)) rfl ?_
          refine VL.un rfl rfl (ltn rfl) ?_
          refine VL.un rfl rfl (ltn rfl) ?_
          refine VL.un rfl rfl (ltn rfl) ?_
          refine VL.va (op_pick rfl rfl (ltn rfl)) rfl ?_
          refine VL.va (op_assign rfl (ltn rfl)) rfl ?_
          refine VL.done ?_
          refine VN.then ?_
          refine VC.ret ?_
          obtain rfl := Option.some.inj h
          exact VR.fn (rs := [.tmp 2]) [] [] [] rfl (.tmp rfl .nil) ⟨rfl, rfl, rfl⟩ trivial rfl (by decide)
    · rw [if_neg c471] at h
      obtain rfl := Bool.eq_false_iff.2 c471
      refine VL.un rfl rfl (ltn rfl) ?_
      refine VL.un rfl rfl (ltn rfl) ?_
      refine VL.un rfl rfl (ltn rfl) ?_
      refine VL.un rfl rfl (ltn rfl) ?_
      refine VL.un rfl rfl (ltn rfl) ?_
      refine VL.va (op_pick rfl rfl (ltn rfl)) rfl ?_
      refine VL.va (op_move rfl (ltn rfl)) rfl ?_
      refine VL.un rfl rfl (ltn rfl) ?_
      refine VL.un rfl rfl (ltn rfl) ?_
      refine VL.un rfl rfl (ltn rfl) ?_
      refine VL.va (op_pick rfl rfl (ltn rfl)) rfl ?_
      refine VL.va (op_move rfl (ltn rfl)) rfl ?_
      refine VL.un rfl rfl (ltn rfl) ?_
      refine VL.un rfl rfl (ltn rfl) ?_
      refine VL.un rfl rfl (ltn rfl) ?_
      refine VL.va (op_pick rfl rfl (ltn rfl)) rfl ?_
      refine VL.va (op_move rfl (ltn rfl)) rfl ?_
      refine VL.un rfl rfl (ltn rfl) ?_
      refine VL.un rfl rfl (ltn rfl) ?_
      refine VL.un rfl rfl (ltn rfl) ?_
      refine VL.va (op_pick rfl rfl (ltn rfl)) rfl ?_
      refine VL.va (op_assign rfl (ltn rfl)) rfl ?_
      refine VL.done ?_
      refine VN.then ?_
      refine VC.ret ?_
      obtain rfl := Option.some.inj h
      exact VR.fn (rs := [.tmp 2]) [] [] [] rfl (.tmp rfl .nil) ⟨rfl, rfl, rfl⟩ trivial rfl (by decide)
  · rw [if_neg c468] at h
    obtain rfl := Bool.eq_false_iff.2 c468
    refine VL.un rfl rfl (ltn rfl) ?_
    refine VL.un rfl rfl (ltn rfl) ?_
    refine VL.un rfl rfl (ltn rfl) ?_
    refine VL.va (op_pick rfl rfl (ltn rfl)) rfl ?_
    refine VL.va (op_move rfl (ltn rfl)) rfl ?_
    refine VL.un rfl rfl (ltn rfl) ?_
    refine VL.un rfl rfl (ltn rfl) ?_
    refine VL.un rfl rfl (ltn rfl) ?_
    refine VL.un rfl rfl (ltn rfl) ?_
    refine VL.un rfl rfl (ltn rfl) ?_
    refine VL.va (op_pick rfl rfl (ltn rfl)) rfl ?_
    refine VL.va (op_move rfl (ltn rfl)) rfl ?_
    refine VL.un rfl rfl (ltn rfl) ?_
    refine VL.un rfl rfl (ltn rfl) ?_
    refine VL.un rfl rfl (ltn rfl) ?_
    refine VL.va (op_pick rfl rfl (ltn rfl)) rfl ?_
    refine VL.va (op_move rfl (ltn rfl)) rfl ?_
    refine VL.un rfl rfl (ltn rfl) ?_
    refine VL.un rfl rfl (ltn rfl) ?_
    refine VL.un rfl rfl (ltn rfl) ?_
    refine VL.va (op_pick rfl rfl (ltn rfl)) rfl ?_
    refine VL.va (op_move rfl (ltn rfl)) rfl ?_
    refine VL.un rfl rfl (ltn rfl) ?_
    refine VL.un rfl rfl (ltn rfl) ?_
    refine VL.un rfl rfl (ltn rfl) ?_
    refine VL.va (op_pick rfl rfl (ltn rfl)) rfl ?_
    refine VL.va (op_assign rfl (ltn rfl)) rfl ?_
    refine VL.done ?_
    refine VN.then ?_
    refine VC.ret ?_
    obtain rfl := Option.some.inj h
    exact VR.fn (rs := [.tmp 2]) [] [] [] rfl (.tmp rfl .nil) ⟨rfl, rfl, rfl⟩ trivial rfl (by decide)
set_option maxHeartbeats 4000000 in
set_option maxRecDepth 100000 in
theorem slices_Index_string_string.ok (k : Nat) (l0 : List ByteArray) (a1 : ByteArray) (v0 : Value) (r1 : Int) (h : slices_Index_string_string.f k l0 a1 = some r1) :
    VCalls Try.prog 86 [v0, .string a1] [.row v0 1 (l0.map enc_str)] (fun v G own => v = .int .i64 r1 ∧ G = [] ∧ own = []) := by
  refine VCalls.intro Try.func86 rfl (len rfl) fun E hC hW hD hU => ?_
  unfold slices_Index_string_string.f at h
  refine VC.seq ?_
  refine VC.region ?_
  refine VL.va (op_assign rfl (ltn rfl)) rfl ?_
  refine VL.done ?_
  refine VN.then ?_
  refine VC.seq ?_
  refine VC.seq ?_
  refine VC.region ?_
  refine VL.va (op_move rfl (ltn rfl)) rfl ?_
  refine VL.va (op_len (m := l0.length) 0 lenm Try.underlying72 rfl rfl (ltn rfl)) rfl ?_
  refine VL.va (op_move rfl (ltn rfl)) rfl ?_
  refine VL.done ?_
  refine VN.then ?_
  refine VC.block ?_
  refine VC.loop1 (fun (i544 : Int) => ⟨19, [(0, v0), (1, .string a1), (4, .int .i64 0), (7, .int .i64 (l0.length : Int)), (8, .int .i64 i544)], [.row v0 1 (l0.map enc_str)], [], []⟩) (fun (ml1 : Nat) (i544 : Int) => slices_Index_string_string.l1 k a1 l0 ml1 i544 = some r1) k 0 [] [] h ⟨rfl, ⟨rfl, rfl, rfl, rfl, rfl, trivial⟩, ⟨⟨0, rfl⟩, trivial⟩, rfl, by decide, rfl, by decide⟩ (by intros; simp [slices_Index_string_string.l1]) ?_
  clear h
  intro ml1 ihl1 i544 h
  simp only [slices_Index_string_string.l1] at h
  refine VC.seq ?_
  refine VC.region ?_
  refine VL.letter (decide (i544 < (l0.length : Int))) fun b560 hb560 => ?_
  refine VL.va (op_cmp rfl rfl (congrArg some hb560) (ltn rfl)) rfl ?_
  refine VL.done ?_
  refine VN.then ?_
  refine VC.seq ?_
  by_cases c562 : i544 < (l0.length : Int)
  · rw [if_pos c562] at h
    obtain rfl : b560 = true := hb560.symm.trans (decide_eq_true c562)
    refine VC.cond_t rfl ?_
    refine VC.skip ?_
    refine VN.then ?_
    refine VC.seq ?_
    refine VC.block ?_
    refine VC.seq ?_
    refine VC.region ?_
    refine VL.va (op_move rfl (ltn rfl)) rfl ?_
    refine VL.va (op_assign rfl (ltn rfl)) rfl ?_
    refine VL.done ?_
    refine VN.then ?_
    refine VC.seq ?_
    refine VC.region ?_
    refine VL.va (op_move rfl (ltn rfl)) rfl ?_
    refine VL.va (op_move rfl (ltn rfl)) rfl ?_
    refine VL.va (op_move rfl (ltn rfl)) rfl ?_
    by_cases c569 : 0 ≤ i544
    · rw [if_pos c569] at h
      replace h := Option.bind_eq_some_iff.1 h
      obtain ⟨x570, hx570, h⟩ := h
      refine VL.open (m := l0.length) 0 lenm rfl (pos_get hx570) ?_
      rintro ad571 n572 rfl
      refine VL.va (op_indexAddr Try.underlying72 TI9 rfl rfl c569 (lt_get c569 hx570) rfl (ltn rfl)) rfl ?_
      refine VL.va (op_load_row (sz := 1) (o := 0) 0 i544.toNat 1 rfl rfl (get_map hx570) TI9 rfl (by decide) (ltn rfl)) rfl ?_
      refine VL.letter ((a1 == x570)) fun b573 hb573 => ?_
      refine VL.va (op_cmps rfl rfl (congrArg some hb573) (ltn rfl)) rfl ?_
      refine VL.done ?_
      refine VN.then ?_
      by_cases c574 : (a1 == x570) = true
      · rw [if_pos c574] at h
        obtain rfl : b573 = true := hb573.symm.trans (c574)
        refine VC.cond_t rfl ?_
        refine VC.seq ?_
        refine VC.region ?_
        refine VL.va (op_move rfl (ltn rfl)) rfl ?_
        refine VL.va (op_assign rfl (ltn rfl)) rfl ?_
        refine VL.done ?_
        refine VN.then ?_
        refine VC.ret ?_
        refine VR.block ?_
        refine VR.then ?_
        refine VR.then ?_
        refine VR.block ?_
        refine VR.then ?_
        obtain rfl := Option.some.inj h
        exact VR.fn (rs := [.tmp 4]) [] [] [] rfl (.tmp rfl .nil) ⟨rfl, rfl, rfl⟩ trivial rfl (by decide)
      · rw [if_neg c574] at h
        obtain rfl : b573 = false := hb573.symm.trans (Bool.eq_false_iff.2 c574)
        refine VC.cond_f rfl ?_
        refine VC.skip ?_
        refine VN.block ?_
        refine VN.then ?_
        refine VC.region ?_
        refine VL.va (op_ari64 rfl rfl rfl (ltn rfl)) rfl ?_
        refine VL.va (op_move rfl (ltn rfl)) rfl ?_
        refine VL.done ?_
        refine VN.again [] [] (ihl1 (wrap64 (i544 + 1)) h) ⟨rfl, ⟨rfl, rfl, rfl, rfl, rfl, trivial⟩, ⟨⟨0, rfl⟩, trivial⟩, rfl, by decide, rfl, by decide⟩
    · rw [if_neg c569] at h; cases h
  · rw [if_neg c562] at h
    obtain rfl : b560 = false := hb560.symm.trans (decide_eq_false c562)
    refine VC.cond_f rfl ?_
    refine VC.exit ?_
    refine VX.then ?_
    refine VX.then ?_
    refine VX.hit ?_
    refine VN.then ?_
    refine VC.seq ?_
    refine VC.region ?_
    refine VL.va (op_assign rfl (ltn rfl)) rfl ?_
    refine VL.done ?_
    refine VN.then ?_
    refine VC.ret ?_
    obtain rfl := Option.some.inj h
    exact VR.fn (rs := [.tmp 4]) [] [] [] rfl (.tmp rfl .nil) ⟨rfl, rfl, rfl⟩ trivial rfl (by decide)
set_option maxHeartbeats 4000000 in
set_option maxRecDepth 100000 in
theorem slices_Contains_string_string.ok (k : Nat) (l0 : List ByteArray) (a1 : ByteArray) (v0 : Value) (r1 : Bool) (h : slices_Contains_string_string.f k l0 a1 = some r1) :
    VCalls Try.prog 69 [v0, .string a1] [.row v0 1 (l0.map enc_str)] (fun v G own => v = .bool r1 ∧ G = [] ∧ own = []) := by
  refine VCalls.intro Try.func69 rfl (len rfl) fun E hC hW hD hU => ?_
  unfold slices_Contains_string_string.f at h
  refine VC.seq ?_
  refine VC.region ?_
  refine VL.va (op_assign rfl (ltn rfl)) rfl ?_
  refine VL.done ?_
  refine VN.then ?_
  refine VC.seq ?_
  refine VC.region ?_
  refine VL.va (op_move rfl (ltn rfl)) rfl ?_
  refine VL.va (op_move rfl (ltn rfl)) rfl ?_
  replace h := Option.bind_eq_some_iff.1 h
  obtain ⟨t575, hA576, h⟩ := h
  refine VL.sC (o_call0 FO86 (slices_Index_string_string.ok k l0 a1 v0 t575 hA576) rfl rfl (ltn rfl) (All_of (.cons (List.mem_of_getElem? (i := 0) rfl) .nil))) rfl ?_
  rintro _ _ _ ⟨rfl, rfl, rfl⟩
  refine VL.letter (decide (t575 ≥ 0)) fun b577 hb577 => ?_
  refine VL.va (op_cmp rfl rfl (congrArg some hb577) (ltn rfl)) rfl ?_
  refine VL.va (op_assign rfl (ltn rfl)) rfl ?_
  refine VL.done ?_
  refine VN.then ?_
  refine VC.ret ?_
  obtain rfl := Option.some.inj h
  subst hb577
  exact VR.fn (rs := [.tmp 4]) [] [] [] rfl (.tmp rfl .nil) ⟨rfl, rfl, rfl⟩ trivial rfl (by decide)
set_option maxHeartbeats 4000000 in
set_option maxRecDepth 100000 in
theorem goods_Right_2.ok (k : Nat) (a0 : ByteArray)  (r1 : Bool) (h : goods_Right_2.f k a0 = some r1) :
    VCalls Try.prog 71 [.string a0] [] (fun v G own => v = .bool r1 ∧ G = [] ∧ own = []) := by
  refine VCalls.intro Try.func71 rfl (len rfl) fun E hC hW hD hU => ?_
  unfold goods_Right_2.f at h
  refine VC.seq ?_
  refine VC.region ?_
  refine VL.va (op_assign rfl (ltn rfl)) rfl ?_
  refine VL.done ?_
  refine VN.then ?_
  refine VC.seq ?_
  refine VC.region ?_
  refine VL.va (op_move rfl (ltn rfl)) rfl ?_
  replace h := Option.bind_eq_some_iff.1 h
  obtain ⟨t888, hA889, h⟩ := h
  refine VL.sC (o_call0 FO72 (goods_name.ok k a0 t888 hA889) rfl rfl (ltn rfl) (All_of .nil)) rfl ?_
  rintro _ _ _ ⟨rfl, rfl, rfl⟩
  by_cases c890 : t888 = true
  · rw [if_pos c890] at h
    obtain rfl := c890
    refine VL.va (op_not rfl rfl (ltn rfl)) rfl ?_
    refine VL.va (op_assign rfl (ltn rfl)) rfl ?_
    refine VL.done ?_
    refine VN.then ?_
    refine VC.ret ?_
    obtain rfl := Option.some.inj h
    exact VR.fn (rs := [.tmp 2]) [] [] [] rfl (.tmp rfl .nil) ⟨rfl, rfl, rfl⟩ trivial rfl (by decide)
  · rw [if_neg c890] at h
    obtain rfl := Bool.eq_false_iff.2 c890
    refine VL.va (op_not rfl rfl (ltn rfl)) rfl ?_
    refine VL.va (op_assign rfl (ltn rfl)) rfl ?_
    refine VL.done ?_
    refine VN.then ?_
    refine VC.ret ?_
    obtain rfl := Option.some.inj h
    exact VR.fn (rs := [.tmp 2]) [] [] [] rfl (.tmp rfl .nil) ⟨rfl, rfl, rfl⟩ trivial rfl (by decide)

end Go.Proofs.Ytdofmkbffffbpaa.PWaitsFair
