/- Written by a program of this repo: what the program's functions do, each as a Lean function, shown of the loaded code; or a statement's row over that; no condition of its own. -/
import Derived.Test.YtlfkendmepdbkaaPDiskWorksx1
namespace Go.Proofs.Ytlfkendmepdbkaa.PDiskWorks
open Go Go.RowKit Go.Proofs.YtlfkendmepdbkaaV
set_option linter.unusedVariables false
set_option linter.unusedSimpArgs false

set_option maxHeartbeats 4000000 in
set_option maxRecDepth 100000 in
theorem slices_IndexFunc_api_Write_api_Write.ok (k : Nat) (l0 : List S32) (a1_0_0 : Int) (v0 : Value) (p1_0 : Nat) (p1_1 : Nat) (r1 : Int) (h : slices_IndexFunc_api_Write_api_Write.f k l0 a1_0_0 = some r1) :
    VCalls Try.prog 42 [v0, (.func (.func 30) #[] #[.pointer (some ⟨p1_0, 0, none⟩), .pointer (some ⟨p1_1, 0, none⟩)])] [.row v0 2 (l0.map enc32), .at_ ⟨p1_0, 0, none⟩ [.int .i64 a1_0_0], .at_ ⟨p1_1, 0, none⟩ [(.func (.func 29) #[] #[])]] (fun v G own => v = .int .i64 r1 ∧ G = [] ∧ own = []) := by
  refine VCalls.intro Try.func42 rfl (len rfl) fun E hC hW hD hU => ?_
  unfold slices_IndexFunc_api_Write_api_Write.f at h
  refine VC.seq ?_
  refine VC.region ?_
  refine VL.va (op_assign rfl (ltn rfl)) rfl ?_
  refine VL.done ?_
  refine VN.then ?_
  refine VC.seq ?_
  refine VC.seq ?_
  refine VC.region ?_
  refine VL.va (op_move rfl (ltn rfl)) rfl ?_
  refine VL.va (op_len (m := l0.length) 0 lenm Try.underlying23 rfl rfl (ltn rfl)) rfl ?_
  refine VL.va (op_move rfl (ltn rfl)) rfl ?_
  refine VL.done ?_
  refine VN.then ?_
  refine VC.block ?_
  refine VC.loop1 (fun (i581 : Int) => ⟨19, [(0, v0), (1, (.func (.func 30) #[] #[.pointer (some ⟨p1_0, 0, none⟩), .pointer (some ⟨p1_1, 0, none⟩)])), (4, .int .i64 0), (7, .int .i64 (l0.length : Int)), (8, .int .i64 i581)], [.at_ ⟨p1_0, 0, none⟩ [.int .i64 a1_0_0], .at_ ⟨p1_1, 0, none⟩ [(.func (.func 29) #[] #[])], .row v0 2 (l0.map enc32)], [], []⟩) (fun (ml1 : Nat) (i581 : Int) => slices_IndexFunc_api_Write_api_Write.l1 k a1_0_0 l0 ml1 i581 = some r1) k 0 [] [] h ⟨rfl, ⟨rfl, rfl, rfl, rfl, rfl, trivial⟩, ⟨⟨1, rfl⟩, ⟨2, rfl⟩, ⟨0, rfl⟩, trivial⟩, rfl, by decide, rfl, by decide⟩ (by intros; simp [slices_IndexFunc_api_Write_api_Write.l1]) ?_
  clear h
  intro ml1 ihl1 i581 h
  simp only [slices_IndexFunc_api_Write_api_Write.l1] at h
  refine VC.seq ?_
  refine VC.region ?_
  refine VL.letter (decide (i581 < (l0.length : Int))) fun b599 hb599 => ?_
  refine VL.va (op_cmp rfl rfl (congrArg some hb599) (ltn rfl)) rfl ?_
  refine VL.done ?_
  refine VN.then ?_
  refine VC.seq ?_
  by_cases c601 : i581 < (l0.length : Int)
  · rw [if_pos c601] at h
    obtain rfl : b599 = true := hb599.symm.trans (decide_eq_true c601)
    refine VC.cond_t rfl ?_
    refine VC.skip ?_
    refine VN.then ?_
    refine VC.seq ?_
    refine VC.block ?_
    refine VC.seq ?_
    refine VC.region ?_
    refine VL.va (op_move rfl (ltn rfl)) rfl ?_
    refine VL.va (op_assign rfl (ltn rfl)) rfl ?_
    refine VL.done ?_
    refine VN.then ?_
    refine VC.seq ?_
    refine VC.region ?_
    refine VL.va (op_move rfl (ltn rfl)) rfl ?_
    refine VL.va (op_move rfl (ltn rfl)) rfl ?_
    refine VL.va (op_move rfl (ltn rfl)) rfl ?_
    by_cases c609 : 0 ≤ i581
    · rw [if_pos c609] at h
      replace h := Option.bind_eq_some_iff.1 h
      obtain ⟨x610, hx610, h⟩ := h
      refine VL.open (m := l0.length) 2 lenm rfl (pos_get hx610) ?_
      rintro ad611 n612 rfl
      refine VL.va (op_indexAddr Try.underlying23 TI33 rfl rfl c609 (lt_get c609 hx610) rfl (ltn rfl)) rfl ?_
      refine VL.va (op_load_row (sz := 2) (o := 0) 2 i581.toNat 2 rfl rfl (get_map hx610) TI33 rfl (fun h => absurd h (by decide)) (ltn rfl)) rfl ?_
      replace h := Option.bind_eq_some_iff.1 h
      obtain ⟨t613, hA614, h⟩ := h
      refine VL.sC (o_call (vals := [.agg #[.int .i64 x610.f0, .string x610.f1]]) (caps := [.pointer (some ⟨p1_0, 0, none⟩), .pointer (some ⟨p1_1, 0, none⟩)]) FO30 (disk_Right_2.ok x610.f0 x610.f1 a1_0_0 p1_0 p1_1 t613 hA614) rfl rfl (ltn rfl) (All_of (.cons (List.mem_of_getElem? (i := 0) rfl) (.cons (List.mem_of_getElem? (i := 1) rfl) .nil)))) rfl ?_
      rintro _ _ _ ⟨rfl, rfl, rfl⟩
      refine VL.done ?_
      refine VN.then ?_
      by_cases c615 : t613 = true
      · rw [if_pos c615] at h
        obtain rfl := c615
        refine VC.cond_t rfl ?_
        refine VC.seq ?_
        refine VC.region ?_
        refine VL.va (op_move rfl (ltn rfl)) rfl ?_
        refine VL.va (op_assign rfl (ltn rfl)) rfl ?_
        refine VL.done ?_
        refine VN.then ?_
        refine VC.ret ?_
        refine VR.block ?_
        refine VR.then ?_
        refine VR.then ?_
        refine VR.block ?_
        refine VR.then ?_
        obtain rfl := Option.some.inj h
        exact VR.fn (rs := [.tmp 4]) [] [] [] rfl (.tmp rfl .nil) ⟨rfl, rfl, rfl⟩ trivial rfl (by decide)
      · rw [if_neg c615] at h
        obtain rfl := Bool.eq_false_iff.2 c615
        refine VC.cond_f rfl ?_
        refine VC.skip ?_
        refine VN.block ?_
        refine VN.then ?_
        refine VC.region ?_
        refine VL.va (op_ari64 rfl rfl rfl (ltn rfl)) rfl ?_
        refine VL.va (op_move rfl (ltn rfl)) rfl ?_
        refine VL.done ?_
        refine VN.again [] [] (ihl1 (wrap64 (i581 + 1)) h) ⟨rfl, ⟨rfl, rfl, rfl, rfl, rfl, trivial⟩, ⟨⟨0, rfl⟩, ⟨1, rfl⟩, ⟨2, rfl⟩, trivial⟩, rfl, by decide, rfl, by decide⟩
    · rw [if_neg c609] at h; cases h
  · rw [if_neg c601] at h
    obtain rfl : b599 = false := hb599.symm.trans (decide_eq_false c601)
    refine VC.cond_f rfl ?_
    refine VC.exit ?_
    refine VX.then ?_
    refine VX.then ?_
    refine VX.hit ?_
    refine VN.then ?_
    refine VC.seq ?_
    refine VC.region ?_
    refine VL.va (op_assign rfl (ltn rfl)) rfl ?_
    refine VL.done ?_
    refine VN.then ?_
    refine VC.ret ?_
    obtain rfl := Option.some.inj h
    exact VR.fn (rs := [.tmp 4]) [] [] [] rfl (.tmp rfl .nil) ⟨rfl, rfl, rfl⟩ trivial rfl (by decide)
set_option maxHeartbeats 4000000 in
set_option maxRecDepth 100000 in
theorem slices_ContainsFunc_api_Write_api_Write.ok (k : Nat) (l0 : List S32) (a1_0_0 : Int) (v0 : Value) (p1_0 : Nat) (p1_1 : Nat) (r1 : Bool) (h : slices_ContainsFunc_api_Write_api_Write.f k l0 a1_0_0 = some r1) :
    VCalls Try.prog 32 [v0, (.func (.func 30) #[] #[.pointer (some ⟨p1_0, 0, none⟩), .pointer (some ⟨p1_1, 0, none⟩)])] [.row v0 2 (l0.map enc32), .at_ ⟨p1_0, 0, none⟩ [.int .i64 a1_0_0], .at_ ⟨p1_1, 0, none⟩ [(.func (.func 29) #[] #[])]] (fun v G own => v = .bool r1 ∧ G = [] ∧ own = []) := by
  refine VCalls.intro Try.func32 rfl (len rfl) fun E hC hW hD hU => ?_
  unfold slices_ContainsFunc_api_Write_api_Write.f at h
  refine VC.seq ?_
  refine VC.region ?_
  refine VL.va (op_assign rfl (ltn rfl)) rfl ?_
  refine VL.done ?_
  refine VN.then ?_
  refine VC.seq ?_
  refine VC.region ?_
  refine VL.va (op_move rfl (ltn rfl)) rfl ?_
  refine VL.va (op_move rfl (ltn rfl)) rfl ?_
  replace h := Option.bind_eq_some_iff.1 h
  obtain ⟨t616, hA617, h⟩ := h
  refine VL.sC (o_call0 FO42 (slices_IndexFunc_api_Write_api_Write.ok k l0 a1_0_0 v0 p1_0 p1_1 t616 hA617) rfl rfl (ltn rfl) (All_of (.cons (List.mem_of_getElem? (i := 0) rfl) (.cons (List.mem_of_getElem? (i := 1) rfl) (.cons (List.mem_of_getElem? (i := 2) rfl) .nil))))) rfl ?_
  rintro _ _ _ ⟨rfl, rfl, rfl⟩
  refine VL.letter (decide (t616 ≥ 0)) fun b618 hb618 => ?_
  refine VL.va (op_cmp rfl rfl (congrArg some hb618) (ltn rfl)) rfl ?_
  refine VL.va (op_assign rfl (ltn rfl)) rfl ?_
  refine VL.done ?_
  refine VN.then ?_
  refine VC.ret ?_
  obtain rfl := Option.some.inj h
  subst hb618
  exact VR.fn (rs := [.tmp 4]) [] [] [] rfl (.tmp rfl .nil) ⟨rfl, rfl, rfl⟩ trivial rfl (by decide)
set_option maxHeartbeats 4000000 in
set_option maxRecDepth 100000 in
theorem disk_Right.ok (k : Nat) (l0_0 : List ByteArray) (l0_1 : List S32) (v0_0 : Value) (v0_1 : Value) (r1 : Bool) (h : disk_Right.f k l0_0 l0_1 = some r1) :
    VCalls Try.prog 16 [.agg #[v0_0, v0_1]] [.row v0_0 1 (l0_0.map enc_str), .row v0_1 2 (l0_1.map enc32)] (fun v G own => v = .bool r1 ∧ G = [] ∧ own = []) := by
  refine VCalls.intro Try.func16 rfl (len rfl) fun E hC hW hD hU => ?_
  unfold disk_Right.f at h
  refine VC.seq ?_
  refine VC.region ?_
  refine VL.sG (o_box rfl (.agg (.f 0 rfl (.f 1 rfl .nil))) (ltn rfl)) rfl ?_
  intro g383
  refine VL.va (op_assign rfl (ltn rfl)) rfl ?_
  refine VL.done ?_
  refine VN.then ?_
  refine VC.seq ?_
  refine VC.region ?_
  refine VL.va (op_fieldAddr FI25_0 rfl (add_at _ _ _) (ltn rfl)) rfl ?_
  refine VL.va (op_load 0 1 rfl rfl TI22 rfl (by decide) (ltn rfl)) rfl ?_
  refine VL.va (op_len (m := l0_0.length) 0 lenm Try.underlying22 rfl rfl (ltn rfl)) rfl ?_
  refine VL.sG (o_alloc Z3 ZL3 (ltn rfl)) rfl ?_
  intro g384
  refine VL.step1 (o_store 0 1 rfl rfl rfl TI3 (.c rfl) rfl (len rfl)) rfl ?_
  refine VL.done ?_
  refine VN.then ?_
  refine VC.seq ?_
  refine VC.region ?_
  refine VL.sG (o_alloc Z68 ZL68 (ltn rfl)) rfl ?_
  intro g385
  refine VL.step1 (o_store 0 1 rfl rfl rfl TI68 (.c rfl) rfl (len rfl)) rfl ?_
  refine VL.done ?_
  refine VN.then ?_
  refine VC.seq ?_
  refine VC.region ?_
  refine VL.va (op_makeFunc (vals := [.pointer (some ⟨g384, 0, none⟩), .pointer (some ⟨g385, 0, none⟩)]) rfl (ltn rfl)) rfl ?_
  refine VL.va (op_assign rfl (ltn rfl)) rfl ?_
  refine VL.done ?_
  refine VN.then ?_
  refine VC.seq ?_
  refine VC.region ?_
  refine VL.va (op_load 1 1 rfl rfl TI3 rfl (by decide) (ltn rfl)) rfl ?_
  refine VL.letter (decide ((l0_0.length : Int) ≥ 1)) fun b622 hb622 => ?_
  refine VL.va (op_cmp rfl rfl (congrArg some hb622) (ltn rfl)) rfl ?_
  refine VL.va (op_move rfl (ltn rfl)) rfl ?_
  by_cases c623 : (l0_0.length : Int) ≥ 1
  · rw [if_pos c623] at h
    obtain rfl : b622 = true := hb622.symm.trans (decide_eq_true c623)
    refine VL.va (op_load 1 1 rfl rfl TI3 rfl (by decide) (ltn rfl)) rfl ?_
    refine VL.letter (decide ((l0_0.length : Int) ≤ 512)) fun b624 hb624 => ?_
    refine VL.va (op_cmp rfl rfl (congrArg some hb624) (ltn rfl)) rfl ?_
    refine VL.va (op_pick rfl rfl (ltn rfl)) rfl ?_
    refine VL.va (op_move rfl (ltn rfl)) rfl ?_
    by_cases c625 : (l0_0.length : Int) ≤ 512
    · rw [if_pos c625] at h
      obtain rfl : b624 = true := hb624.symm.trans (decide_eq_true c625)
      refine VL.va (op_fieldAddr FI25_1 rfl (add_at _ _ _) (ltn rfl)) rfl ?_
      refine VL.va (op_load 2 1 rfl rfl TI23 rfl (by decide) (ltn rfl)) rfl ?_
      refine VL.va (op_len (m := l0_1.length) 1 lenm Try.underlying23 rfl rfl (ltn rfl)) rfl ?_
      refine VL.letter (decide ((l0_1.length : Int) ≤ 64)) fun b626 hb626 => ?_
      refine VL.va (op_cmp rfl rfl (congrArg some hb626) (ltn rfl)) rfl ?_
      refine VL.va (op_pick rfl rfl (ltn rfl)) rfl ?_
      refine VL.va (op_move rfl (ltn rfl)) rfl ?_
      by_cases c627 : (l0_1.length : Int) ≤ 64
      · rw [if_pos c627] at h
        obtain rfl : b626 = true := hb626.symm.trans (decide_eq_true c627)
        refine VL.va (op_fieldAddr FI25_0 rfl (add_at _ _ _) (ltn rfl)) rfl ?_
        refine VL.va (op_load 2 1 rfl rfl TI22 rfl (by decide) (ltn rfl)) rfl ?_
        refine VL.va (op_load 0 1 rfl rfl TI68 rfl (by decide) (ltn rfl)) rfl ?_
        replace h := Option.bind_eq_some_iff.1 h
        obtain ⟨t628, hA629, h⟩ := h
        refine VL.sC (o_call0 FO31 (slices_ContainsFunc_string_string.ok k l0_0 v0_0 t628 hA629) rfl rfl (ltn rfl) (All_of (.cons (List.mem_of_getElem? (i := 0) rfl) .nil))) rfl ?_
        rintro _ _ _ ⟨rfl, rfl, rfl⟩
        by_cases c630 : t628 = true
        · rw [if_pos c630] at h
          obtain rfl := c630
          refine VL.va (op_not rfl rfl (ltn rfl)) rfl ?_
          refine VL.va (op_pick rfl rfl (ltn rfl)) rfl ?_
          refine VL.va (op_move rfl (ltn rfl)) rfl ?_
          refine VL.un rfl rfl (ltn rfl) ?_
          refine VL.un rfl rfl (ltn rfl) ?_
          refine VL.un rfl rfl (ltn rfl) ?_
          refine VL.un rfl rfl (ltn rfl) ?_
          refine VL.un rfl rfl (ltn rfl) ?_
          refine VL.va (op_pick rfl rfl (ltn rfl)) rfl ?_
          refine VL.va (op_assign rfl (ltn rfl)) rfl ?_
          refine VL.done ?_
          refine VN.then ?_
          refine VC.ret ?_
          obtain rfl := Option.some.inj h
          exact VR.fn (rs := [.tmp 2]) [] [] [] rfl (.tmp rfl .nil) ⟨rfl, rfl, rfl⟩ trivial rfl (by decide)
        · rw [if_neg c630] at h
          obtain rfl := Bool.eq_false_iff.2 c630
          refine VL.va (op_not rfl rfl (ltn rfl)) rfl ?_
          refine VL.va (op_pick rfl rfl (ltn rfl)) rfl ?_
          refine VL.va (op_move rfl (ltn rfl)) rfl ?_
          refine VL.va (op_fieldAddr FI25_1 rfl (add_at _ _ _) (ltn rfl)) rfl ?_
          refine VL.va (op_load 2 1 rfl rfl TI23 rfl (by decide) (ltn rfl)) rfl ?_
          refine VL.va (op_move rfl (ltn rfl)) rfl ?_
          refine VL.freeze' 1 rfl ?_
          refine VL.freeze' 0 rfl ?_
          replace h := Option.bind_eq_some_iff.1 h
          obtain ⟨t631, hA632, h⟩ := h
          refine VL.sC (o_call0 FO32 (slices_ContainsFunc_api_Write_api_Write.ok k l0_1 (l0_0.length : Int) v0_1 g384 g385 t631 hA632) rfl rfl (ltn rfl) (All_of (.cons (List.mem_of_getElem? (i := 3) rfl) (.cons (List.mem_of_getElem? (i := 1) rfl) (.cons (List.mem_of_getElem? (i := 0) rfl) .nil))))) rfl ?_
          rintro _ _ _ ⟨rfl, rfl, rfl⟩
          by_cases c633 : t631 = true
          · rw [if_pos c633] at h
            obtain rfl := c633
            refine VL.va (op_not rfl rfl (ltn rfl)) rfl ?_
            refine VL.va (op_pick rfl rfl (ltn rfl)) rfl ?_
            refine VL.va (op_assign rfl (ltn rfl)) rfl ?_
            refine VL.done ?_
            refine VN.then ?_
            refine VC.ret ?_
            obtain rfl := Option.some.inj h
            exact VR.fn (rs := [.tmp 2]) [] [] [] rfl (.tmp rfl .nil) ⟨rfl, rfl, rfl⟩ trivial rfl (by decide)
          · rw [if_neg c633] at h
            obtain rfl := Bool.eq_false_iff.2 c633
            refine VL.va (op_not rfl rfl (ltn rfl)) rfl ?_
            refine VL.va (op_pick rfl rfl (ltn rfl)) rfl ?_
            refine VL.va (op_assign rfl (ltn rfl)) rfl ?_
            refine VL.done ?_
            refine VN.then ?_
            refine VC.ret ?_
            obtain rfl := Option.some.inj h
            exact VR.fn (rs := [.tmp 2]) [] [] [] rfl (.tmp rfl .nil) ⟨rfl, rfl, rfl⟩ trivial rfl (by decide)
      · rw [if_neg c627] at h
        obtain rfl : b626 = false := hb626.symm.trans (decide_eq_false c627)
        refine VL.un rfl rfl (ltn rfl) ?_
        refine VL.un rfl rfl (ltn rfl) ?_
        refine VL.un rfl rfl (ltn rfl) ?_
        refine VL.un rfl rfl (ltn rfl) ?_
        refine VL.un rfl rfl (ltn rfl) ?_
        refine VL.va (op_pick rfl rfl (ltn rfl)) rfl ?_
        refine VL.va (op_move rfl (ltn rfl)) rfl ?_
        refine VL.un rfl rfl (ltn rfl) ?_
        refine VL.un rfl rfl (ltn rfl) ?_
        refine VL.un rfl rfl (ltn rfl) ?_
        refine VL.un rfl rfl (ltn rfl) ?_
        refine VL.un rfl rfl (ltn rfl) ?_
        refine VL.va (op_pick rfl rfl (ltn rfl)) rfl ?_
        refine VL.va (op_assign rfl (ltn rfl)) rfl ?_
        refine VL.done ?_
        refine VN.then ?_
        refine VC.ret ?_
        obtain rfl := Option.some.inj h
        exact VR.fn (rs := [.tmp 2]) [] [] [] rfl (.tmp rfl .nil) ⟨rfl, rfl, rfl⟩ trivial rfl (by decide)
    · rw [if_neg c625] at h
      obtain rfl : b624 = false := hb624.symm.trans (decide_eq_false c625)
      refine VL.un rfl rfl (ltn rfl) ?_
      refine VL.un rfl rfl (ltn rfl) ?_
      refine VL.un rfl rfl (ltn rfl) ?_
      refine VL.un rfl rfl (ltn rfl) ?_
      refine VL.va (op_pick rfl rfl (ltn rfl)) rfl ?_
      refine VL.va (op_move rfl (ltn rfl)) rfl ?_
      refine VL.un rfl rfl (ltn rfl) ?_
      refine VL.un rfl rfl (ltn rfl) ?_
      refine VL.un rfl rfl (ltn rfl) ?_
      refine VL.un rfl rfl (ltn rfl) ?_
      refine VL.un rfl rfl (ltn rfl) ?_
      refine VL.va (op_pick rfl rfl (ltn rfl)) rfl ?_
      refine VL.va (op_move rfl (ltn rfl)) rfl ?_
      refine VL.un rfl rfl (ltn rfl) ?_
      refine VL.un rfl rfl (ltn rfl) ?_
      refine VL.un rfl rfl (ltn rfl) ?_
      refine VL.un rfl rfl (ltn rfl) ?_
      refine VL.un rfl rfl (ltn rfl) ?_
      refine VL.va (op_pick rfl rfl (ltn rfl)) rfl ?_
      refine VL.va (op_assign rfl (ltn rfl)) rfl ?_
      refine VL.done ?_
      refine VN.then ?_
      refine VC.ret ?_
      obtain rfl := Option.some.inj h
      exact VR.fn (rs := [.tmp 2]) [] [] [] rfl (.tmp rfl .nil) ⟨rfl, rfl, rfl⟩ trivial rfl (by decide)
  · rw [if_neg c623] at h
    obtain rfl : b622 = false := hb622.symm.trans (decide_eq_false c623)
    refine VL.un rfl rfl (ltn rfl) ?_
    refine VL.un rfl rfl (ltn rfl) ?_
    refine VL.va (op_pick rfl rfl (ltn rfl)) rfl ?_
    refine VL.va (op_move rfl (ltn rfl)) rfl ?_
    refine VL.un rfl rfl (ltn rfl) ?_
    refine VL.un rfl rfl (ltn rfl) ?_
    refine VL.un rfl rfl (ltn rfl) ?_
    refine VL.un rfl rfl (ltn rfl) ?_
    refine VL.va (op_pick rfl rfl (ltn rfl)) rfl ?_
    refine VL.va (op_move rfl (ltn rfl)) rfl ?_
    refine VL.un rfl rfl (ltn rfl) ?_
    refine VL.un rfl rfl (ltn rfl) ?_
    refine VL.un rfl rfl (ltn rfl) ?_
    refine VL.un rfl rfl (ltn rfl) ?_
    refine VL.un rfl rfl (ltn rfl) ?_
    refine VL.va (op_pick rfl rfl (ltn rfl)) rfl ?_
    refine VL.va (op_move rfl (ltn rfl)) rfl ?_
    refine VL.un rfl rfl (ltn rfl) ?_
    refine VL.un rfl rfl (ltn rfl) ?_
    refine VL.un rfl rfl (ltn rfl) ?_
    refine VL.un rfl rfl (ltn rfl) ?_
    refine VL.un rfl rfl (ltn rfl) ?_
    refine VL.va (op_pick rfl rfl (ltn rfl)) rfl ?_
    refine VL.va (op_assign rfl (ltn rfl)) rfl ?_
    refine VL.done ?_
    refine VN.then ?_
    refine VC.ret ?_
    obtain rfl := Option.some.inj h
    exact VR.fn (rs := [.tmp 2]) [] [] [] rfl (.tmp rfl .nil) ⟨rfl, rfl, rfl⟩ trivial rfl (by decide)
set_option maxHeartbeats 4000000 in
set_option maxRecDepth 100000 in
theorem slices_Clip_api_Write_api_Write.ok (l0 : List S32) (v0 : Value) (r1 : List S32) (h : slices_Clip_api_Write_api_Write.f l0 = some r1) :
    VCalls Try.prog 21 [v0] [.row v0 2 (l0.map enc32)] (fun v G own => ∃ A : Option Addr, v = .slice A r1.length r1.length ∧ G = [.row (.slice A r1.length r1.length) 2 (r1.map enc32)] ∧ own = []) := by
  obtain rfl := Option.some.inj h
  clear h
  refine VCalls.intro Try.func21 rfl (len rfl) fun E hC hW hD hU => ?_
  refine VC.seq (VC.region ?_)
  refine VL.va (op_assign rfl (ltn rfl)) rfl ?_
  refine VL.done (VN.then ?_)
  refine VC.seq (VC.region ?_)
  refine VL.va (op_move rfl (ltn rfl)) rfl ?_
  refine VL.va (op_move rfl (ltn rfl)) rfl ?_
  refine VL.va (op_len (m := l0.length) 0 lenm Try.underlying23 rfl rfl (ltn rfl)) rfl ?_
  refine VL.va (op_move rfl (ltn rfl)) rfl ?_
  refine VL.va (op_len (m := l0.length) 0 lenm Try.underlying23 rfl rfl (ltn rfl)) rfl ?_
  refine VL.sG (o_clip (m := l0.length) 0 lenm Try.underlying23 TI33 rfl rfl rfl rfl (ltn rfl)) rfl ?_
  intro A
  refine VL.va (op_assign rfl (ltn rfl)) rfl ?_
  refine VL.done (VN.then ?_)
  refine VC.ret ?_
  exact VR.fn (rs := [.tmp 2]) [.row (.slice A l0.length l0.length) 2 (l0.map enc32)] [] [] rfl (.tmp rfl .nil) ⟨_, rfl, rfl, rfl⟩ ⟨⟨0, rfl⟩, trivial⟩ rfl (by decide)
set_option maxHeartbeats 4000000 in
set_option maxRecDepth 100000 in
theorem disk_Put.ok (k : Nat) (l0_0 : List ByteArray) (l0_1 : List S32) (a1 : Int) (a2 : ByteArray) (v0_0 : Value) (v0_1 : Value) (r1 : List ByteArray) (r2 : List S32) (r3 : Int) (h : disk_Put.f k l0_0 l0_1 a1 a2 = some (r1, r2, r3)) :
    VCalls Try.prog 10 [.agg #[v0_0, v0_1], .int .i64 a1, .string a2] [.row v0_0 1 (l0_0.map enc_str), .row v0_1 2 (l0_1.map enc32)] (fun v G own => ∃ w0 w1 : Value, v = .tuple #[.agg #[w0, w1], .int .i64 r3] ∧ G = [.row w0 1 (r1.map enc_str), .row w1 2 (r2.map enc32)] ∧ own = []) := by
  refine VCalls.intro Try.func10 rfl (len rfl) fun E hC hW hD hU => ?_
  unfold disk_Put.f at h
  refine VC.seq ?_
  refine VC.region ?_
  refine VL.sG (o_box rfl (.agg (.f 0 rfl (.f 1 rfl .nil))) (ltn rfl)) rfl ?_
  intro g695
  refine VL.sG (o_alloc Z25 ZL25 (ltn rfl)) rfl ?_
  intro g696
  refine VL.va (op_assign rfl (ltn rfl)) rfl ?_
  refine VL.done ?_
  refine VN.then ?_
  refine VC.seq ?_
  refine VC.block ?_
  refine VC.seq ?_
  refine VC.region ?_
  refine VL.va (op_load 1 2 rfl rfl TI25 rfl (fun h => absurd h (by decide)) (ltn rfl)) rfl ?_
  replace h := Option.bind_eq_some_iff.1 h
  obtain ⟨t727, hA728, h⟩ := h
  refine VL.sC (o_call0 FO16 (disk_Right.ok k l0_0 l0_1 v0_0 v0_1 t727 hA728) rfl rfl (ltn rfl) (All_of (.cons (List.mem_of_getElem? (i := 0) rfl) (.cons (List.mem_of_getElem? (i := 1) rfl) .nil)))) rfl ?_
  rintro _ _ _ ⟨rfl, rfl, rfl⟩
  by_cases c729 : t727 = true
  · rw [if_pos c729] at h
    obtain rfl := c729
    refine VL.va (op_not rfl rfl (ltn rfl)) rfl ?_
    refine VL.va (op_assign rfl (ltn rfl)) rfl ?_
    refine VL.done ?_
    refine VN.then ?_
    refine VC.cond_f rfl ?_
    refine VC.seq ?_
    refine VC.region ?_
    refine VL.va (op_move rfl (ltn rfl)) rfl ?_
    refine VL.letter (decide (a1 < 0)) fun b733 hb733 => ?_
    refine VL.va (op_cmp rfl rfl (congrArg some hb733) (ltn rfl)) rfl ?_
    refine VL.va (op_move rfl (ltn rfl)) rfl ?_
    by_cases c734 : a1 < 0
    · rw [if_pos c734] at h
      obtain rfl : b733 = true := hb733.symm.trans (decide_eq_true c734)
      refine VL.un rfl rfl (ltn rfl) ?_
      refine VL.un rfl rfl (ltn rfl) ?_
      refine VL.un rfl rfl (ltn rfl) ?_
      refine VL.un rfl rfl (ltn rfl) ?_
      refine VL.un rfl rfl (ltn rfl) ?_
      refine VL.va (op_pick rfl rfl (ltn rfl)) rfl ?_
      refine VL.va (op_assign rfl (ltn rfl)) rfl ?_
      refine VL.done ?_
      refine VN.then ?_
      refine VC.cond_t rfl ?_
      refine VC.seq ?_
      refine VC.region ?_
      refine VL.va (op_build (vals := []) (vcs := []) (cells := [.slice none 0 0, .slice none 0 0]) SI25 rfl .nil (by kernel_rfl) (ltn rfl)) rfl ?_
      refine VL.step1 (o_store 0 2 rfl rfl rfl TI25 (.agg (.of rfl)) rfl (len rfl)) rfl ?_
      refine VL.va (op_assign rfl (ltn rfl)) rfl ?_
      refine VL.done ?_
      refine VN.then ?_
      refine VC.ret ?_
      refine VR.block ?_
      refine VR.then ?_
      simp only [Option.some.injEq, Prod.mk.injEq] at h
      obtain ⟨rfl, rfl, rfl⟩ := h
      refine VR.nilFact' 1 ?_
      refine VR.nilFact' 2 ?_
      exact VR.fn (rs := [.cell 6 25, .tmp 7]) [.row (.slice none 0 0) 1 (([] : List ByteArray).map enc_str), .row (.slice none 0 0) 2 (([] : List S32).map enc32)] [] [] rfl (.cell 0 rfl rfl TI25 (fun h => absurd h (by decide)) (.tmp rfl .nil)) ⟨(.slice none 0 0), (.slice none 0 0), rfl, rfl, rfl⟩ ⟨⟨1, rfl⟩, ⟨0, rfl⟩, trivial⟩ rfl (by decide)
    · rw [if_neg c734] at h
      obtain rfl : b733 = false := hb733.symm.trans (decide_eq_false c734)
      refine VL.va (op_move rfl (ltn rfl)) rfl ?_
      refine VL.va (op_fieldAddr FI25_0 rfl (add_at _ _ _) (ltn rfl)) rfl ?_
      refine VL.va (op_load 1 1 rfl rfl TI22 rfl (by decide) (ltn rfl)) rfl ?_
      refine VL.va (op_len (m := l0_0.length) 0 lenm Try.underlying22 rfl rfl (ltn rfl)) rfl ?_
      refine VL.letter (decide (a1 ≥ (l0_0.length : Int))) fun b737 hb737 => ?_
      refine VL.va (op_cmp rfl rfl (congrArg some hb737) (ltn rfl)) rfl ?_
      refine VL.va (op_pick rfl rfl (ltn rfl)) rfl ?_
      refine VL.va (op_assign rfl (ltn rfl)) rfl ?_
      refine VL.done ?_
      refine VN.then ?_
      by_cases c738 : a1 ≥ (l0_0.length : Int)
      · rw [if_pos c738] at h
        obtain rfl : b737 = true := hb737.symm.trans (decide_eq_true c738)
        refine VC.cond_t rfl ?_
        refine VC.seq ?_
        refine VC.region ?_
        refine VL.va (op_build (vals := []) (vcs := []) (cells := [.slice none 0 0, .slice none 0 0]) SI25 rfl .nil (by kernel_rfl) (ltn rfl)) rfl ?_
        refine VL.step1 (o_store 0 2 rfl rfl rfl TI25 (.agg (.of rfl)) rfl (len rfl)) rfl ?_
        refine VL.va (op_assign rfl (ltn rfl)) rfl ?_
        refine VL.done ?_
        refine VN.then ?_
        refine VC.ret ?_
        refine VR.block ?_
        refine VR.then ?_
        simp only [Option.some.injEq, Prod.mk.injEq] at h
        obtain ⟨rfl, rfl, rfl⟩ := h
        refine VR.nilFact' 1 ?_
        refine VR.nilFact' 2 ?_
        exact VR.fn (rs := [.cell 6 25, .tmp 7]) [.row (.slice none 0 0) 1 (([] : List ByteArray).map enc_str), .row (.slice none 0 0) 2 (([] : List S32).map enc32)] [] [] rfl (.cell 0 rfl rfl TI25 (fun h => absurd h (by decide)) (.tmp rfl .nil)) ⟨(.slice none 0 0), (.slice none 0 0), rfl, rfl, rfl⟩ ⟨⟨1, rfl⟩, ⟨0, rfl⟩, trivial⟩ rfl (by decide)
      · rw [if_neg c738] at h
        obtain rfl : b737 = false := hb737.symm.trans (decide_eq_false c738)
        refine VC.cond_f rfl ?_
        refine VC.seq ?_
        refine VC.region ?_
        refine VL.va (op_move rfl (ltn rfl)) rfl ?_
        refine VL.va (op_lens Try.underlying9 rfl (ltn rfl)) rfl ?_
        refine VL.letter (((a2.size : Int) != 64)) fun b741 hb741 => ?_
        refine VL.va (op_cmp rfl rfl (congrArg some hb741) (ltn rfl)) rfl ?_
        refine VL.va (op_assign rfl (ltn rfl)) rfl ?_
        refine VL.done ?_
        refine VN.then ?_
        by_cases c742 : (a2.size : Int) = 64
        · rw [if_pos c742] at h
          obtain rfl : b741 = false := hb741.symm.trans (bne_eq_false_iff_eq.2 c742)
          refine VC.cond_f rfl ?_
          refine VC.seq ?_
          refine VC.region ?_
          refine VL.va (op_fieldAddr FI25_1 rfl (add_at _ _ _) (ltn rfl)) rfl ?_
          refine VL.va (op_load 1 1 rfl rfl TI23 rfl (by decide) (ltn rfl)) rfl ?_
          refine VL.va (op_len (m := l0_1.length) 1 lenm Try.underlying23 rfl rfl (ltn rfl)) rfl ?_
          refine VL.letter (((l0_1.length : Int) == 64)) fun b743 hb743 => ?_
          refine VL.va (op_cmp rfl rfl (congrArg some hb743) (ltn rfl)) rfl ?_
          refine VL.va (op_assign rfl (ltn rfl)) rfl ?_
          refine VL.done ?_
          refine VN.then ?_
          by_cases c744 : (l0_1.length : Int) = 64
          · rw [if_pos c744] at h
            obtain rfl : b743 = true := hb743.symm.trans (beq_iff_eq.2 c744)
            refine VC.cond_t rfl ?_
            refine VC.seq ?_
            refine VC.region ?_
            refine VL.va (op_build (vals := []) (vcs := []) (cells := [.slice none 0 0, .slice none 0 0]) SI25 rfl .nil (by kernel_rfl) (ltn rfl)) rfl ?_
            refine VL.step1 (o_store 0 2 rfl rfl rfl TI25 (.agg (.of rfl)) rfl (len rfl)) rfl ?_
            refine VL.va (op_assign rfl (ltn rfl)) rfl ?_
            refine VL.done ?_
            refine VN.then ?_
            refine VC.ret ?_
            refine VR.block ?_
            refine VR.then ?_
            simp only [Option.some.injEq, Prod.mk.injEq] at h
            obtain ⟨rfl, rfl, rfl⟩ := h
            refine VR.nilFact' 1 ?_
            refine VR.nilFact' 2 ?_
            exact VR.fn (rs := [.cell 6 25, .tmp 7]) [.row (.slice none 0 0) 1 (([] : List ByteArray).map enc_str), .row (.slice none 0 0) 2 (([] : List S32).map enc32)] [] [] rfl (.cell 0 rfl rfl TI25 (fun h => absurd h (by decide)) (.tmp rfl .nil)) ⟨(.slice none 0 0), (.slice none 0 0), rfl, rfl, rfl⟩ ⟨⟨1, rfl⟩, ⟨0, rfl⟩, trivial⟩ rfl (by decide)
          · rw [if_neg c744] at h
            obtain rfl : b743 = false := hb743.symm.trans (beq_eq_false_iff_ne.2 c744)
            refine VC.cond_f rfl ?_
            refine VC.skip ?_
            refine VN.block ?_
            refine VN.then ?_
            refine VC.seq ?_
            refine VC.region ?_
            refine VL.va (op_fieldAddr FI25_1 rfl (add_at _ _ _) (ltn rfl)) rfl ?_
            refine VL.va (op_load 1 1 rfl rfl TI23 rfl (by decide) (ltn rfl)) rfl ?_
            replace h := Option.bind_eq_some_iff.1 h
            obtain ⟨r747, hA748, h⟩ := h
            refine VL.sC (o_call0 FO21 (slices_Clip_api_Write_api_Write.ok l0_1 v0_1 r747 hA748) rfl rfl (ltn rfl) (All_of (.cons (List.mem_of_getElem? (i := 1) rfl) .nil))) rfl ?_
            rintro _ _ _ ⟨A749, rfl, rfl, rfl⟩
            refine VL.va (op_move rfl (ltn rfl)) rfl ?_
            refine VL.va (op_move rfl (ltn rfl)) rfl ?_
            refine VL.va (op_build (vals := [(0, .int .i64 a1), (1, .string a2)]) (vcs := [(0, [.int .i64 a1]), (1, [.string a2])]) (cells := [.int .i64 a1, .string a2]) SI33 rfl (.cons ⟨rfl, (.c rfl)⟩ (.cons ⟨rfl, (.c rfl)⟩ .nil)) (by kernel_rfl) (ltn rfl)) rfl ?_
            refine VL.sG (o_buildSlice (vals := [(0, .agg #[.int .i64 a1, .string a2])]) (cells := #[.int .i64 a1, .string a2]) (es := List.map enc32 ([(⟨a1, a2⟩ : S32)] : List S32)) Try.underlying23 TI33 Z33 rfl (by decide) (by decide) (by kernel_rfl) (by kernel_rfl) rfl (flat_map enc32_ok _) (ltn rfl)) rfl ?_
            intro v752
            by_cases c753 : (r747.length + ([(⟨a1, a2⟩ : S32)] : List S32).length) * 24 ≤ 140737488355328
            · rw [if_pos c753] at h
              refine VL.sG (o_append_clip 0 appm Try.underlying23 EI33 rfl rfl rfl (.inr ⟨0, _, rfl⟩) (bndm c753) (ltn rfl)) rfl ?_
              intro v754
              refine VL.va (op_fieldAddr FI25_1 rfl (add_at _ _ _) (ltn rfl)) rfl ?_
              refine VL.step1 (o_store 1 1 rfl rfl rfl TI23 (.f 0 rfl) rfl (len rfl)) rfl ?_
              refine VL.done ?_
              refine VN.then ?_
              refine VC.seq ?_
              refine VC.region ?_
              refine VL.va (op_load 1 2 rfl rfl TI25 rfl (fun h => absurd h (by decide)) (ltn rfl)) rfl ?_
              refine VL.step1 (o_store 0 2 rfl rfl rfl TI25 (.agg (.f 2 rfl (.f 0 rfl .nil))) rfl (len rfl)) rfl ?_
              refine VL.va (op_assign rfl (ltn rfl)) rfl ?_
              refine VL.done ?_
              refine VN.then ?_
              refine VC.ret ?_
              simp only [Option.some.injEq, Prod.mk.injEq] at h
              obtain ⟨rfl, rfl, rfl⟩ := h
              exact VR.fn (rs := [.cell 6 25, .tmp 7]) [.row v0_0 1 (l0_0.map enc_str), .row v754 2 ((r747 ++ ([(⟨a1, a2⟩ : S32)] : List S32)).map enc32)] [] [] rfl (.cell 0 rfl rfl TI25 (fun h => absurd h (by decide)) (.tmp rfl .nil)) ⟨v0_0, v754, rfl, rfl, rfl⟩ ⟨⟨2, rfl⟩, ⟨0, rfl⟩, trivial⟩ rfl (by decide)
            · rw [if_neg c753] at h; cases h
        · rw [if_neg c742] at h
          obtain rfl : b741 = true := hb741.symm.trans (bne_iff_ne.2 c742)
          refine VC.cond_t rfl ?_
          refine VC.seq ?_
          refine VC.region ?_
          refine VL.va (op_build (vals := []) (vcs := []) (cells := [.slice none 0 0, .slice none 0 0]) SI25 rfl .nil (by kernel_rfl) (ltn rfl)) rfl ?_
          refine VL.step1 (o_store 0 2 rfl rfl rfl TI25 (.agg (.of rfl)) rfl (len rfl)) rfl ?_
          refine VL.va (op_assign rfl (ltn rfl)) rfl ?_
          refine VL.done ?_
          refine VN.then ?_
          refine VC.ret ?_
          refine VR.block ?_
          refine VR.then ?_
          simp only [Option.some.injEq, Prod.mk.injEq] at h
          obtain ⟨rfl, rfl, rfl⟩ := h
          refine VR.nilFact' 1 ?_
          refine VR.nilFact' 2 ?_
          exact VR.fn (rs := [.cell 6 25, .tmp 7]) [.row (.slice none 0 0) 1 (([] : List ByteArray).map enc_str), .row (.slice none 0 0) 2 (([] : List S32).map enc32)] [] [] rfl (.cell 0 rfl rfl TI25 (fun h => absurd h (by decide)) (.tmp rfl .nil)) ⟨(.slice none 0 0), (.slice none 0 0), rfl, rfl, rfl⟩ ⟨⟨1, rfl⟩, ⟨0, rfl⟩, trivial⟩ rfl (by decide)
  · rw [if_neg c729] at h
    obtain rfl := Bool.eq_false_iff.2 c729
    refine VL.va (op_not rfl rfl (ltn rfl)) rfl ?_
    refine VL.va (op_assign rfl (ltn rfl)) rfl ?_
    refine VL.done ?_
    refine VN.then ?_
    refine VC.cond_t rfl ?_
    refine VC.seq ?_
    refine VC.region ?_
    refine VL.va (op_build (vals := []) (vcs := []) (cells := [.slice none 0 0, .slice none 0 0]) SI25 rfl .nil (by kernel_rfl) (ltn rfl)) rfl ?_
    refine VL.step1 (o_store 0 2 rfl rfl rfl TI25 (.agg (.of rfl)) rfl (len rfl)) rfl ?_
    refine VL.va (op_assign rfl (ltn rfl)) rfl ?_
    refine VL.done ?_
    refine VN.then ?_
    refine VC.ret ?_
    refine VR.block ?_
    refine VR.then ?_
    simp only [Option.some.injEq, Prod.mk.injEq] at h
    obtain ⟨rfl, rfl, rfl⟩ := h
    refine VR.nilFact' 1 ?_
    refine VR.nilFact' 2 ?_
    exact VR.fn (rs := [.cell 6 25, .tmp 7]) [.row (.slice none 0 0) 1 (([] : List ByteArray).map enc_str), .row (.slice none 0 0) 2 (([] : List S32).map enc32)] [] [] rfl (.cell 0 rfl rfl TI25 (fun h => absurd h (by decide)) (.tmp rfl .nil)) ⟨(.slice none 0 0), (.slice none 0 0), rfl, rfl, rfl⟩ ⟨⟨1, rfl⟩, ⟨0, rfl⟩, trivial⟩ rfl (by decide)
set_option maxHeartbeats 4000000 in
set_option maxRecDepth 100000 in
theorem slices_Backward_api_Write_api_Write.ok (l0 : List S32) (v0 : Value) (r1 : List S32) (h : slices_Backward_api_Write_api_Write.f l0 = some r1) :
    VCalls Try.prog 22 [v0] [.row v0 2 (l0.map enc32)] (fun v G own => ∃ w0 : Value, ∃ p0 : Nat, v = .func (.func 35) #[] #[.pointer (some ⟨p0, 0, none⟩)] ∧ G = [.row w0 2 (r1.map enc32), .at_ ⟨p0, 0, none⟩ [w0]] ∧ own = []) := by
  refine VCalls.intro Try.func22 rfl (len rfl) fun E hC hW hD hU => ?_
  unfold slices_Backward_api_Write_api_Write.f at h
  refine VC.seq ?_
  refine VC.region ?_
  refine VL.sG (o_box rfl (.f 0 rfl) (ltn rfl)) rfl ?_
  intro g804
  refine VL.va (op_assign rfl (ltn rfl)) rfl ?_
  refine VL.done ?_
  refine VN.then ?_
  refine VC.seq ?_
  refine VC.region ?_
  refine VL.va (op_makeFunc (vals := [.pointer (some ⟨g804, 0, none⟩)]) rfl (ltn rfl)) rfl ?_
  refine VL.va (op_assign rfl (ltn rfl)) rfl ?_
  refine VL.done ?_
  refine VN.then ?_
  refine VC.ret ?_
  obtain rfl := Option.some.inj h
  refine VR.freeze' 0 rfl ?_
  exact VR.fn (rs := [.tmp 2]) [.row v0 2 (l0.map enc32), .at_ ⟨g804, 0, none⟩ [v0]] [] [] rfl (.tmp rfl .nil) ⟨v0, g804, rfl, rfl, rfl⟩ ⟨⟨1, rfl⟩, ⟨0, rfl⟩, trivial⟩ rfl (by decide)
set_option maxHeartbeats 4000000 in
set_option maxRecDepth 100000 in
theorem disk_Get.ok (k : Nat) (l0_0 : List ByteArray) (l0_1 : List S32) (a1 : Int) (v0_0 : Value) (v0_1 : Value) (r1 : ByteArray) (r2 : Int) (h : disk_Get.f k l0_0 l0_1 a1 = some (r1, r2)) :
    VCalls Try.prog 11 [.agg #[v0_0, v0_1], .int .i64 a1] [.row v0_0 1 (l0_0.map enc_str), .row v0_1 2 (l0_1.map enc32)] (fun v G own => v = .tuple #[.string r1, .int .i64 r2] ∧ G = [] ∧ own = []) := by
  refine VCalls.introM Try.func11 rfl (len rfl) fun E hC hW hD hU => ?_
  unfold disk_Get.f at h
  refine VC.seq ?_
  refine VC.region ?_
  refine VL.sG (o_box rfl (.agg (.f 0 rfl (.f 1 rfl .nil))) (ltn rfl)) rfl ?_
  intro g771
  refine VL.sG (o_box rfl (.c rfl) (ltn rfl)) rfl ?_
  intro g772
  refine VL.sG (o_alloc Z9 ZL9 (ltn rfl)) rfl ?_
  intro g773
  refine VL.sG (o_alloc Z28 ZL28 (ltn rfl)) rfl ?_
  intro g774
  refine VL.done ?_
  refine VN.then ?_
  refine VC.seq ?_
  refine VC.block ?_
  refine VC.seq ?_
  refine VC.region ?_
  refine VL.va (op_load 3 2 rfl rfl TI25 rfl (fun h => absurd h (by decide)) (ltn rfl)) rfl ?_
  replace h := Option.bind_eq_some_iff.1 h
  obtain ⟨t791, hA792, h⟩ := h
  refine VL.sC (o_call0 FO16 (disk_Right.ok k l0_0 l0_1 v0_0 v0_1 t791 hA792) rfl rfl (ltn rfl) (All_of (.cons (List.mem_of_getElem? (i := 0) rfl) (.cons (List.mem_of_getElem? (i := 1) rfl) .nil)))) rfl ?_
  rintro _ _ _ ⟨rfl, rfl, rfl⟩
  by_cases c793 : t791 = true
  · rw [if_pos c793] at h
    obtain rfl := c793
    refine VL.va (op_not rfl rfl (ltn rfl)) rfl ?_
    refine VL.va (op_assign rfl (ltn rfl)) rfl ?_
    refine VL.done ?_
    refine VN.then ?_
    refine VC.cond_f rfl ?_
    refine VC.seq ?_
    refine VC.region ?_
    refine VL.va (op_load 2 1 rfl rfl TI3 rfl (by decide) (ltn rfl)) rfl ?_
    refine VL.letter (decide (a1 < 0)) fun b797 hb797 => ?_
    refine VL.va (op_cmp rfl rfl (congrArg some hb797) (ltn rfl)) rfl ?_
    refine VL.va (op_move rfl (ltn rfl)) rfl ?_
    by_cases c798 : a1 < 0
    · rw [if_pos c798] at h
      obtain rfl : b797 = true := hb797.symm.trans (decide_eq_true c798)
      refine VL.un rfl rfl (ltn rfl) ?_
      refine VL.un rfl rfl (ltn rfl) ?_
      refine VL.un rfl rfl (ltn rfl) ?_
      refine VL.un rfl rfl (ltn rfl) ?_
      refine VL.un rfl rfl (ltn rfl) ?_
      refine VL.va (op_pick rfl rfl (ltn rfl)) rfl ?_
      refine VL.va (op_assign rfl (ltn rfl)) rfl ?_
      refine VL.done ?_
      refine VN.then ?_
      refine VC.cond_t rfl ?_
      refine VC.seq ?_
      refine VC.region ?_
      refine VL.step1 (o_store 1 1 rfl rfl rfl TI9 (.c rfl) rfl (len rfl)) rfl ?_
      refine VL.step1 (o_store 0 1 rfl rfl rfl TI28 (.c rfl) rfl (len rfl)) rfl ?_
      refine VL.done ?_
      refine VN.then ?_
      refine VC.ret ?_
      refine VR.block ?_
      refine VR.then ?_
      simp only [Option.some.injEq, Prod.mk.injEq] at h
      obtain ⟨rfl, rfl⟩ := h
      refine VR.m0 ?_
      exact VR.fn (rs := [.cell 4 9, .cell 5 28]) [] [] [] rfl (.cell 1 rfl rfl TI9 (fun _ => rfl) (.cell 0 rfl rfl TI28 (fun _ => rfl) .nil)) ⟨rfl, rfl, rfl⟩ trivial rfl (by decide)
    · rw [if_neg c798] at h
      obtain rfl : b797 = false := hb797.symm.trans (decide_eq_false c798)
      refine VL.va (op_load 2 1 rfl rfl TI3 rfl (by decide) (ltn rfl)) rfl ?_
      refine VL.va (op_fieldAddr FI25_0 rfl (add_at _ _ _) (ltn rfl)) rfl ?_
      refine VL.va (op_load 3 1 rfl rfl TI22 rfl (by decide) (ltn rfl)) rfl ?_
      refine VL.va (op_len (m := l0_0.length) 0 lenm Try.underlying22 rfl rfl (ltn rfl)) rfl ?_
      refine VL.letter (decide (a1 ≥ (l0_0.length : Int))) fun b799 hb799 => ?_
      refine VL.va (op_cmp rfl rfl (congrArg some hb799) (ltn rfl)) rfl ?_
      refine VL.va (op_pick rfl rfl (ltn rfl)) rfl ?_
      refine VL.va (op_assign rfl (ltn rfl)) rfl ?_
      refine VL.done ?_
      refine VN.then ?_
      by_cases c800 : a1 ≥ (l0_0.length : Int)
      · rw [if_pos c800] at h
        obtain rfl : b799 = true := hb799.symm.trans (decide_eq_true c800)
        refine VC.cond_t rfl ?_
        refine VC.seq ?_
        refine VC.region ?_
        refine VL.step1 (o_store 1 1 rfl rfl rfl TI9 (.c rfl) rfl (len rfl)) rfl ?_
        refine VL.step1 (o_store 0 1 rfl rfl rfl TI28 (.c rfl) rfl (len rfl)) rfl ?_
        refine VL.done ?_
        refine VN.then ?_
        refine VC.ret ?_
        refine VR.block ?_
        refine VR.then ?_
        simp only [Option.some.injEq, Prod.mk.injEq] at h
        obtain ⟨rfl, rfl⟩ := h
        refine VR.m0 ?_
        exact VR.fn (rs := [.cell 4 9, .cell 5 28]) [] [] [] rfl (.cell 1 rfl rfl TI9 (fun _ => rfl) (.cell 0 rfl rfl TI28 (fun _ => rfl) .nil)) ⟨rfl, rfl, rfl⟩ trivial rfl (by decide)
      · rw [if_neg c800] at h
        obtain rfl : b799 = false := hb799.symm.trans (decide_eq_false c800)
        refine VC.cond_f rfl ?_
        refine VC.skip ?_
        refine VN.block ?_
        refine VN.then ?_
        refine VC.seq ?_
        refine VC.seq ?_
        refine VC.region ?_
        refine VL.va (op_fieldAddr FI25_1 rfl (add_at _ _ _) (ltn rfl)) rfl ?_
        refine VL.va (op_load 3 1 rfl rfl TI23 rfl (by decide) (ltn rfl)) rfl ?_
        replace h := Option.bind_eq_some_iff.1 h
        obtain ⟨r805, hA806, h⟩ := h
        refine VL.sC (o_call0 FO22 (slices_Backward_api_Write_api_Write.ok l0_1 v0_1 r805 hA806) rfl rfl (ltn rfl) (All_of (.cons (List.mem_of_getElem? (i := 1) rfl) .nil))) rfl ?_
        rintro _ _ _ ⟨v808, g809, rfl, rfl, rfl⟩
        refine VL.done ?_
        refine VN.then ?_
        refine VC.block ?_
        refine VC.rangeFunc (ps := [25, 26]) (caps := [.pointer (some ⟨g809, 0, none⟩)]) Try.func35 FO35 rfl rfl (len rfl) fun D810 l811 L812 hLl811 hDD810 => ?_
        refine VC.seq ?_
        refine VC.region ?_
        refine VL.va (op_load_at (ad := ⟨g809, 0, none⟩) 3 0 1 (by first | rfl | exact congrArg (fun a => some (Value.pointer (some a))) (add_at _ 0 _).symm) rfl TI23 rfl (by decide) (ltn rfl)) rfl ?_
        refine VL.va (op_len (m := r805.length) 2 lenm Try.underlying23 rfl rfl (ltn rfl)) rfl ?_
        refine VL.va (op_ari64 rfl rfl rfl (ltn rfl)) rfl ?_
        refine VL.va (op_assign rfl (ltn rfl)) rfl ?_
        refine VL.done ?_
        refine VN.then ?_
        refine VC.block ?_
        refine VC.loop1 (fun (i845 : Int) => ⟨19, [(0, (.func (.yield l811) #[] #[])), (1, .pointer (some ⟨g809, 0, none⟩)), (3, .int .i64 i845)], [.loop l811 L812 .ready none, .dfr D810, .at_ ⟨g809, 0, none⟩ [v808], .row v0_0 1 (l0_0.map enc_str), .row v0_1 2 (l0_1.map enc32), .row v808 2 (r805.map enc32)], [(g774, 28, [.int .i64 0]), (g773, 9, [.string (⟨#[]⟩ : ByteArray)]), (g772, 3, [.int .i64 a1]), (g771, 25, [v0_0, v0_1])], []⟩) (fun (ml0 : Nat) (i845 : Int) => disk_Get.l0 k a1 l0_0 r805 ml0 i845 = some (r1, r2)) k (wrap64 ((r805.length : Int) - 1)) [0, 1, 2, 3] [] h ⟨rfl, ⟨rfl, rfl, rfl, trivial⟩, ⟨⟨0, rfl⟩, ⟨1, rfl⟩, ⟨3, rfl⟩, ⟨4, rfl⟩, ⟨5, rfl⟩, ⟨2, rfl⟩, trivial⟩, rfl, by decide, rfl, by decide⟩ (by intros; simp [disk_Get.l0]) ?_
        clear h
        intro ml0 ihl0 i845 h
        simp only [disk_Get.l0] at h
        refine VC.seq ?_
        refine VC.seq ?_
        refine VC.region ?_
        refine VL.va (op_move rfl (ltn rfl)) rfl ?_
        refine VL.letter (decide (i845 ≥ 0)) fun b884 hb884 => ?_
        refine VL.va (op_cmp rfl rfl (congrArg some hb884) (ltn rfl)) rfl ?_
        refine VL.done ?_
        refine VN.then ?_
        by_cases c885 : i845 ≥ 0
        · rw [if_pos c885] at h
          obtain rfl : b884 = true := hb884.symm.trans (decide_eq_true c885)
          refine VC.cond_t rfl ?_
          refine VC.skip ?_
          refine VN.then ?_
          refine VC.seq ?_
          refine VC.block ?_
          refine VC.seq ?_
          refine VC.region ?_
          refine VL.va (op_move rfl (ltn rfl)) rfl ?_
          refine VL.va (op_move rfl (ltn rfl)) rfl ?_
          refine VL.va (op_load_at (ad := ⟨g809, 0, none⟩) 2 0 1 (by first | rfl | exact congrArg (fun a => some (Value.pointer (some a))) (add_at _ 0 _).symm) rfl TI23 rfl (by decide) (ltn rfl)) rfl ?_
          refine VL.va (op_move rfl (ltn rfl)) rfl ?_
          by_cases c907 : 0 ≤ i845
          · rw [if_pos c907] at h
            replace h := Option.bind_eq_some_iff.1 h
            obtain ⟨x908, hx908, h⟩ := h
            refine VL.open (m := r805.length) 5 lenm rfl (pos_get hx908) ?_
            rintro ad909 n910 rfl
            refine VL.va (op_indexAddr Try.underlying23 TI33 rfl rfl c907 (lt_get c907 hx908) rfl (ltn rfl)) rfl ?_
            refine VL.va (op_load_row (sz := 2) (o := 0) 5 i845.toNat 2 rfl rfl (get_map hx908) TI33 rfl (fun h => absurd h (by decide)) (ltn rfl)) rfl ?_
            refine VL.yield (vals := [.int .i64 i845, .agg #[.int .i64 x908.f0, .string x908.f1]]) hLl811 rfl rfl rfl rfl (ltn rfl) 0 rfl rfl ?_
            refine VC.region ?_
            refine VL.sG (o_alloc Z33 ZL33 (ltn rfl)) rfl ?_
            intro g911
            refine VL.step1 (o_store 0 2 rfl rfl rfl TI33 (.agg (.of rfl)) rfl (len rfl)) rfl ?_
            refine VL.done ?_
            refine VN.begin 0 hLl811.base rfl rfl rfl ?_
            refine VC.block ?_
            refine VC.seq ?_
            refine VC.region ?_
            refine VL.va (op_fieldAddr FI33_0 rfl (add_at _ _ _) (ltn rfl)) rfl ?_
            refine VL.va (op_load 0 1 rfl rfl TI3 rfl (by decide) (ltn rfl)) rfl ?_
            refine VL.va (op_load 3 1 rfl rfl TI3 rfl (by decide) (ltn rfl)) rfl ?_
            refine VL.letter ((x908.f0 == a1)) fun b912 hb912 => ?_
            refine VL.va (op_cmp rfl rfl (congrArg some hb912) (ltn rfl)) rfl ?_
            refine VL.done ?_
            refine VN.then ?_
            by_cases c913 : x908.f0 = a1
            · rw [if_pos c913] at h
              obtain rfl : b912 = true := hb912.symm.trans (beq_iff_eq.2 c913)
              refine VC.cond_t rfl ?_
              refine VC.seq ?_
              refine VC.region ?_
              refine VL.va (op_fieldAddr FI33_1 rfl (add_at _ _ _) (ltn rfl)) rfl ?_
              refine VL.va (op_load 0 1 rfl rfl TI9 rfl (by decide) (ltn rfl)) rfl ?_
              refine VL.step1 (o_store 2 1 rfl rfl rfl TI9 (.c rfl) rfl (len rfl)) rfl ?_
              refine VL.step1 (o_store 1 1 rfl rfl rfl TI28 (.c rfl) rfl (len rfl)) rfl ?_
              refine VL.done ?_
              refine VN.then ?_
              refine VC.ret ?_
              refine VR.block ?_
              refine VR.endRound 0 hLl811.base rfl rfl rfl ?_
              refine VL.va (op_not rfl rfl (ltn rfl)) rfl ?_
              refine VL.done ?_
              refine VN.then ?_
              refine VC.cond_t rfl ?_
              refine VC.ret ?_
              refine VR.block ?_
              refine VR.then ?_
              refine VR.then ?_
              refine VR.block ?_
              refine VR.endRFj 0 rfl rfl rfl rfl ?_
              refine VC.ret ?_
              refine VR.block ?_
              refine VR.then ?_
              simp only [Option.some.injEq, Prod.mk.injEq] at h
              obtain ⟨rfl, rfl⟩ := h
              refine VR.mark 0 hDD810 rfl rfl rfl ?_
              exact VR.fn (rs := [.cell 4 9, .cell 5 28]) [] [] [] rfl (.cell 2 rfl rfl TI9 (fun _ => rfl) (.cell 1 rfl rfl TI28 (fun _ => rfl) .nil)) ⟨rfl, rfl, rfl⟩ trivial rfl (by decide)
            · rw [if_neg c913] at h
              obtain rfl : b912 = false := hb912.symm.trans (beq_eq_false_iff_ne.2 c913)
              refine VC.cond_f rfl ?_
              refine VC.skip ?_
              refine VN.block ?_
              refine VN.endRound 0 hLl811.base rfl rfl rfl ?_
              refine VL.va (op_not rfl rfl (ltn rfl)) rfl ?_
              refine VL.done ?_
              refine VN.then ?_
              refine VC.cond_f rfl ?_
              refine VC.skip ?_
              refine VN.block ?_
              refine VN.then ?_
              refine VC.region ?_
              refine VL.va (op_move rfl (ltn rfl)) rfl ?_
              refine VL.va (op_ari64 rfl rfl rfl (ltn rfl)) rfl ?_
              refine VL.va (op_assign rfl (ltn rfl)) rfl ?_
              refine VL.done ?_
              refine VN.again [1, 2, 3, 4] [] (ihl0 (wrap64 (i845 - 1)) h) ⟨rfl, ⟨rfl, rfl, rfl, trivial⟩, ⟨⟨0, rfl⟩, ⟨1, rfl⟩, ⟨2, rfl⟩, ⟨3, rfl⟩, ⟨4, rfl⟩, ⟨5, rfl⟩, trivial⟩, rfl, by decide, rfl, by decide⟩
          · rw [if_neg c907] at h; cases h
        · rw [if_neg c885] at h
          obtain rfl : b884 = false := hb884.symm.trans (decide_eq_false c885)
          refine VC.cond_f rfl ?_
          refine VC.exit ?_
          refine VX.then ?_
          refine VX.then ?_
          refine VX.hit ?_
          refine VN.endRF 0 rfl rfl rfl rfl ?_
          refine VN.block ?_
          refine VN.then ?_
          refine VC.seq ?_
          refine VC.region ?_
          refine VL.va (op_fieldAddr FI25_0 rfl (add_at _ _ _) (ltn rfl)) rfl ?_
          refine VL.va (op_load 3 1 rfl rfl TI22 rfl (by decide) (ltn rfl)) rfl ?_
          refine VL.va (op_load 2 1 rfl rfl TI3 rfl (by decide) (ltn rfl)) rfl ?_
          by_cases c914 : 0 ≤ a1
          · rw [if_pos c914] at h
            replace h := Option.bind_eq_some_iff.1 h
            obtain ⟨x915, hx915, h⟩ := h
            refine VL.open (m := l0_0.length) 2 lenm rfl (pos_get hx915) ?_
            rintro ad916 n917 rfl
            refine VL.va (op_indexAddr Try.underlying22 TI9 rfl rfl c914 (lt_get c914 hx915) rfl (ltn rfl)) rfl ?_
            refine VL.va (op_load_row (sz := 1) (o := 0) 2 a1.toNat 1 rfl rfl (get_map hx915) TI9 rfl (by decide) (ltn rfl)) rfl ?_
            refine VL.step1 (o_store 1 1 rfl rfl rfl TI9 (.c rfl) rfl (len rfl)) rfl ?_
            refine VL.step1 (o_store 0 1 rfl rfl rfl TI28 (.c rfl) rfl (len rfl)) rfl ?_
            refine VL.done ?_
            refine VN.then ?_
            refine VC.ret ?_
            simp only [Option.some.injEq, Prod.mk.injEq] at h
            obtain ⟨rfl, rfl⟩ := h
            refine VR.mark 0 hDD810 rfl rfl rfl ?_
            exact VR.fn (rs := [.cell 4 9, .cell 5 28]) [] [] [] rfl (.cell 1 rfl rfl TI9 (fun _ => rfl) (.cell 0 rfl rfl TI28 (fun _ => rfl) .nil)) ⟨rfl, rfl, rfl⟩ trivial rfl (by decide)
          · rw [if_neg c914] at h; cases h
  · rw [if_neg c793] at h
    obtain rfl := Bool.eq_false_iff.2 c793
    refine VL.va (op_not rfl rfl (ltn rfl)) rfl ?_
    refine VL.va (op_assign rfl (ltn rfl)) rfl ?_
    refine VL.done ?_
    refine VN.then ?_
    refine VC.cond_t rfl ?_
    refine VC.seq ?_
    refine VC.region ?_
    refine VL.step1 (o_store 1 1 rfl rfl rfl TI9 (.c rfl) rfl (len rfl)) rfl ?_
    refine VL.step1 (o_store 0 1 rfl rfl rfl TI28 (.c rfl) rfl (len rfl)) rfl ?_
    refine VL.done ?_
    refine VN.then ?_
    refine VC.ret ?_
    refine VR.block ?_
    refine VR.then ?_
    simp only [Option.some.injEq, Prod.mk.injEq] at h
    obtain ⟨rfl, rfl⟩ := h
    refine VR.m0 ?_
    exact VR.fn (rs := [.cell 4 9, .cell 5 28]) [] [] [] rfl (.cell 1 rfl rfl TI9 (fun _ => rfl) (.cell 0 rfl rfl TI28 (fun _ => rfl) .nil)) ⟨rfl, rfl, rfl⟩ trivial rfl (by decide)
set_option maxHeartbeats 4000000 in
set_option maxRecDepth 100000 in
theorem slices_Clone_string_string.ok (l0 : List ByteArray) (v0 : Value) (r1 : List ByteArray) (h : slices_Clone_string_string.f l0 = some r1) :
    VCalls Try.prog 19 [v0] [.row v0 1 (l0.map enc_str)] (fun v G own => ∃ w0 : Value, v = w0 ∧ G = [] ∧ own = [(w0, 9, 1, r1.map enc_str)]) := by
  unfold slices_Clone_string_string.f at h
  by_cases hc : ¬ (l0.length * 16 ≤ 140737488355328)
  · rw [if_neg hc] at h; cases h
  replace hc := Decidable.not_not.1 hc
  rw [if_pos hc] at h
  obtain rfl := Option.some.inj h
  clear h
  refine VCalls.intro Try.func19 rfl (len rfl) fun E hC hW hD hU => ?_
  refine VC.formF 0 rfl fun A cap hv h1 h2 h3 => ?_
  rw [lenm] at hv h1 h3
  subst hv
  refine VC.seq (VC.region ?_)
  refine VL.va (op_assign rfl (ltn rfl)) rfl ?_
  refine VL.done (VN.then ?_)
  refine VC.seq ?_
  refine VC.seq (VC.region ?_)
  refine VL.va (op_move rfl (ltn rfl)) rfl ?_
  refine VL.va (op_isnil Try.underlying22 rfl rfl (ltn rfl)) rfl ?_
  refine VL.done (VN.then ?_)
  cases A with
  | none =>
    have e : l0 = [] := List.eq_nil_of_length_eq_zero (h3 rfl)
    subst e
    refine VC.cond_t rfl ?_
    refine VC.seq (VC.region ?_)
    refine VL.va (op_assign rfl (ltn rfl)) rfl ?_
    refine VL.done (VN.then ?_)
    refine VC.ret (VR.then ?_)
    refine VR.nilRow' 9 1 ?_
    exact VR.fn (rs := [.tmp 2]) [] [(.slice none 0 0, 9, 1, [])] [0] rfl (.tmp rfl .nil) ⟨_, rfl, rfl, rfl⟩ trivial rfl (by decide)
  | some ad =>
    refine VC.cond_f rfl (VC.skip (VN.then ?_))
    refine VC.seq (VC.region ?_)
    refine VL.sG (o_buildSlice (vals := []) (cells := #[]) (es := List.map enc_str ([] : List ByteArray)) Try.underlying22 TI9 Z9 rfl (by decide) (by decide) (by kernel_rfl) rfl rfl (flat_map enc_str_ok _) (ltn rfl)) rfl ?_
    intro v1
    refine VL.va (op_move rfl (ltn rfl)) rfl ?_
    refine VL.sG (o_append (es3 := l0.map enc_str) 0 rfl Try.underlying22 EI9 rfl rfl rfl (.inl ⟨0, rfl⟩) (by rw [lenm, lenm]; simpa using hc) (ltn rfl)) rfl ?_
    intro v2
    refine VL.va (op_assign rfl (ltn rfl)) rfl ?_
    refine VL.done (VN.then ?_)
    refine VC.ret ?_
    exact VR.fn (rs := [.tmp 2]) [] [(v2, 9, 1, l0.map enc_str)] [0] rfl (.tmp rfl .nil) ⟨_, rfl, rfl, rfl⟩ trivial rfl (by decide)

end Go.Proofs.Ytlfkendmepdbkaa.PDiskWorks
