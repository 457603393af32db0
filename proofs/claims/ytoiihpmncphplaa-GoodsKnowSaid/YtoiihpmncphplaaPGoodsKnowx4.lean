/- Written by a program of this repo: what the program's functions do, each as a Lean function, shown of the loaded code; or a statement's row over that; no condition of its own. -/
import Derived.Test.YtoiihpmncphplaaPGoodsKnowx3
namespace Go.Proofs.Ytoiihpmncphplaa.PGoodsKnow
open Go Go.RowKit Go.Proofs.YtoiihpmncphplaaV
set_option linter.unusedVariables false
set_option linter.unusedSimpArgs false

set_option maxHeartbeats 4000000 in
set_option maxRecDepth 100000 in
theorem goods_Know.ok (k : Nat) (l0_0 : List ByteArray) (l0_1 : List S22) (a1 : ByteArray) (v0_0 : Value) (v0_1 : Value) (r1 : List ByteArray) (r2 : List S22) (r3 : Int) (h : goods_Know.f k l0_0 l0_1 a1 = some (r1, r2, r3)) :
    VCalls Try.prog 16 [.agg #[v0_0, v0_1], .string a1] [.row v0_0 1 (l0_0.map enc_str), .row v0_1 5 (l0_1.map enc22)] (fun v G own => ∃ w0 w1 : Value, v = .tuple #[.agg #[w0, w1], .int .i64 r3] ∧ G = [.row w1 5 (r2.map enc22)] ∧ own = [(w0, 9, 1, r1.map enc_str)]) := by
  refine VCalls.intro Try.func16 rfl (len rfl) fun E hC => ?_
  unfold goods_Know.f at h
  refine VC.seq ?_
  refine VC.region ?_
  refine VL.sG (o_box rfl (.agg (.f 0 rfl (.f 1 rfl .nil))) (ltn rfl)) rfl ?_
  intro g1859
  refine VL.sG (o_alloc Z35 ZL35 (ltn rfl)) rfl ?_
  intro g1860
  refine VL.va (op_assign rfl (ltn rfl)) rfl ?_
  refine VL.done ?_
  refine VN.then ?_
  refine VC.seq ?_
  refine VC.block ?_
  refine VC.seq ?_
  refine VC.region ?_
  refine VL.va (op_load 1 2 rfl rfl TI35 rfl (fun h => absurd h (by decide)) (ltn rfl)) rfl ?_
  replace h := Option.bind_eq_some_iff.1 h
  obtain ⟨t1892, hA1893, h⟩ := h
  refine VL.sC (o_call0 FO14 (goods_Right.ok k l0_0 l0_1 v0_0 v0_1 t1892 hA1893) rfl rfl (ltn rfl) (All_of (.cons (List.mem_of_getElem? (i := 0) rfl) (.cons (List.mem_of_getElem? (i := 1) rfl) .nil)))) rfl ?_
  rintro _ _ _ ⟨rfl, rfl, rfl⟩
  by_cases c1894 : t1892 = true
  · rw [if_pos c1894] at h
    obtain rfl := c1894
    refine VL.va (op_not rfl rfl (ltn rfl)) rfl ?_
    refine VL.va (op_move rfl (ltn rfl)) rfl ?_
    refine VL.va (op_move rfl (ltn rfl)) rfl ?_
    replace h := Option.bind_eq_some_iff.1 h
    obtain ⟨t1895, hA1896, h⟩ := h
    refine VL.sC (o_call0 FO36 (goods_name.ok k a1 t1895 hA1896) rfl rfl (ltn rfl) (All_of .nil)) rfl ?_
    rintro _ _ _ ⟨rfl, rfl, rfl⟩
    by_cases c1897 : t1895 = true
    · rw [if_pos c1897] at h
      obtain rfl := c1897
      refine VL.va (op_not rfl rfl (ltn rfl)) rfl ?_
      refine VL.va (op_pick rfl rfl (ltn rfl)) rfl ?_
      refine VL.va (op_assign rfl (ltn rfl)) rfl ?_
      refine VL.done ?_
      refine VN.then ?_
      refine VC.cond_f rfl ?_
      refine VC.seq ?_
      refine VC.region ?_
      refine VL.va (op_fieldAddr FI35_0 rfl (add_at _ _ _) (ltn rfl)) rfl ?_
      refine VL.va (op_load 1 1 rfl rfl TI32 rfl (by decide) (ltn rfl)) rfl ?_
      refine VL.va (op_move rfl (ltn rfl)) rfl ?_
      replace h := Option.bind_eq_some_iff.1 h
      obtain ⟨t1898, hA1899, h⟩ := h
      refine VL.sC (o_call0 FO26 (slices_Contains_string_string.ok k l0_0 a1 v0_0 t1898 hA1899) rfl rfl (ltn rfl) (All_of (.cons (List.mem_of_getElem? (i := 0) rfl) .nil))) rfl ?_
      rintro _ _ _ ⟨rfl, rfl, rfl⟩
      refine VL.va (op_assign rfl (ltn rfl)) rfl ?_
      refine VL.done ?_
      refine VN.then ?_
      by_cases c1900 : t1898 = true
      · rw [if_pos c1900] at h
        obtain rfl := c1900
        refine VC.cond_t rfl ?_
        refine VC.seq ?_
        refine VC.region ?_
        refine VL.va (op_build (vals := []) (vcs := []) (cells := [.slice none 0 0, .slice none 0 0]) SI35 rfl .nil (by kernel_rfl) (ltn rfl)) rfl ?_
        refine VL.step1 (o_store 0 2 rfl rfl rfl TI35 (.agg (.of rfl)) rfl (len rfl)) rfl ?_
        refine VL.va (op_assign rfl (ltn rfl)) rfl ?_
        refine VL.done ?_
        refine VN.then ?_
        refine VC.ret ?_
        refine VR.block ?_
        refine VR.then ?_
        simp only [Option.some.injEq, Prod.mk.injEq] at h
        obtain ⟨rfl, rfl, rfl⟩ := h
        refine VR.nilRow' 9 1 ?_
        refine VR.nilFact' 5 ?_
        exact VR.fn (rs := [.cell 4 35, .tmp 5]) [.row (.slice none 0 0) 5 (([] : List S22).map enc22)] [((.slice none 0 0), 9, 1, ([] : List ByteArray).map enc_str)] [0] rfl (.cell 0 rfl rfl TI35 (fun h => absurd h (by decide)) (.tmp rfl .nil)) ⟨(.slice none 0 0), (.slice none 0 0), rfl, rfl, rfl⟩ ⟨⟨0, rfl⟩, trivial⟩ rfl (by decide)
      · rw [if_neg c1900] at h
        obtain rfl := Bool.eq_false_iff.2 c1900
        refine VC.cond_f rfl ?_
        refine VC.seq ?_
        refine VC.region ?_
        refine VL.va (op_fieldAddr FI35_0 rfl (add_at _ _ _) (ltn rfl)) rfl ?_
        refine VL.va (op_load 1 1 rfl rfl TI32 rfl (by decide) (ltn rfl)) rfl ?_
        refine VL.va (op_len (m := l0_0.length) 0 lenm Try.underlying32 rfl rfl (ltn rfl)) rfl ?_
        refine VL.letter (((l0_0.length : Int) == 8)) fun b1903 hb1903 => ?_
        refine VL.va (op_cmp rfl rfl (congrArg some hb1903) (ltn rfl)) rfl ?_
        refine VL.va (op_assign rfl (ltn rfl)) rfl ?_
        refine VL.done ?_
        refine VN.then ?_
        by_cases c1904 : (l0_0.length : Int) = 8
        · rw [if_pos c1904] at h
          obtain rfl : b1903 = true := hb1903.symm.trans (beq_iff_eq.2 c1904)
          refine VC.cond_t rfl ?_
          refine VC.seq ?_
          refine VC.region ?_
          refine VL.va (op_build (vals := []) (vcs := []) (cells := [.slice none 0 0, .slice none 0 0]) SI35 rfl .nil (by kernel_rfl) (ltn rfl)) rfl ?_
          refine VL.step1 (o_store 0 2 rfl rfl rfl TI35 (.agg (.of rfl)) rfl (len rfl)) rfl ?_
          refine VL.va (op_assign rfl (ltn rfl)) rfl ?_
          refine VL.done ?_
          refine VN.then ?_
          refine VC.ret ?_
          refine VR.block ?_
          refine VR.then ?_
          simp only [Option.some.injEq, Prod.mk.injEq] at h
          obtain ⟨rfl, rfl, rfl⟩ := h
          refine VR.nilRow' 9 1 ?_
          refine VR.nilFact' 5 ?_
          exact VR.fn (rs := [.cell 4 35, .tmp 5]) [.row (.slice none 0 0) 5 (([] : List S22).map enc22)] [((.slice none 0 0), 9, 1, ([] : List ByteArray).map enc_str)] [0] rfl (.cell 0 rfl rfl TI35 (fun h => absurd h (by decide)) (.tmp rfl .nil)) ⟨(.slice none 0 0), (.slice none 0 0), rfl, rfl, rfl⟩ ⟨⟨0, rfl⟩, trivial⟩ rfl (by decide)
        · rw [if_neg c1904] at h
          obtain rfl : b1903 = false := hb1903.symm.trans (beq_eq_false_iff_ne.2 c1904)
          refine VC.cond_f rfl ?_
          refine VC.skip ?_
          refine VN.block ?_
          refine VN.then ?_
          refine VC.seq ?_
          refine VC.region ?_
          refine VL.va (op_fieldAddr FI35_0 rfl (add_at _ _ _) (ltn rfl)) rfl ?_
          refine VL.va (op_load 1 1 rfl rfl TI32 rfl (by decide) (ltn rfl)) rfl ?_
          refine VL.va (op_move rfl (ltn rfl)) rfl ?_
          replace h := Option.bind_eq_some_iff.1 h
          obtain ⟨r1907, hA1908, h⟩ := h
          refine VL.sC (o_call0 FO40 (goods_put_string.ok k l0_0 a1 v0_0 r1907 hA1908) rfl rfl (ltn rfl) (All_of (.cons (List.mem_of_getElem? (i := 0) rfl) .nil))) rfl ?_
          rintro v1910 _ _ ⟨_, rfl, rfl, rfl⟩
          refine VL.va (op_fieldAddr FI35_0 rfl (add_at _ _ _) (ltn rfl)) rfl ?_
          refine VL.step1 (o_store 1 1 rfl rfl rfl TI32 (.r 0 rfl) rfl (len rfl)) rfl ?_
          refine VL.done ?_
          refine VN.then ?_
          refine VC.seq ?_
          refine VC.region ?_
          refine VL.va (op_load 1 2 rfl rfl TI35 rfl (fun h => absurd h (by decide)) (ltn rfl)) rfl ?_
          refine VL.step1 (o_store 0 2 rfl rfl rfl TI35 (.agg (.r 0 rfl (.f 1 rfl .nil))) rfl (len rfl)) rfl ?_
          refine VL.va (op_assign rfl (ltn rfl)) rfl ?_
          refine VL.done ?_
          refine VN.then ?_
          refine VC.ret ?_
          simp only [Option.some.injEq, Prod.mk.injEq] at h
          obtain ⟨rfl, rfl, rfl⟩ := h
          exact VR.fn (rs := [.cell 4 35, .tmp 5]) [.row v0_1 5 (l0_1.map enc22)] [(v1910, 9, 1, r1907.map enc_str)] [0] rfl (.cell 0 rfl rfl TI35 (fun h => absurd h (by decide)) (.tmp rfl .nil)) ⟨v1910, v0_1, rfl, rfl, rfl⟩ ⟨⟨1, rfl⟩, trivial⟩ rfl (by decide)
    · rw [if_neg c1897] at h
      obtain rfl := Bool.eq_false_iff.2 c1897
      refine VL.va (op_not rfl rfl (ltn rfl)) rfl ?_
      refine VL.va (op_pick rfl rfl (ltn rfl)) rfl ?_
      refine VL.va (op_assign rfl (ltn rfl)) rfl ?_
      refine VL.done ?_
      refine VN.then ?_
      refine VC.cond_t rfl ?_
      refine VC.seq ?_
      refine VC.region ?_
      refine VL.va (op_build (vals := []) (vcs := []) (cells := [.slice none 0 0, .slice none 0 0]) SI35 rfl .nil (by kernel_rfl) (ltn rfl)) rfl ?_
      refine VL.step1 (o_store 0 2 rfl rfl rfl TI35 (.agg (.of rfl)) rfl (len rfl)) rfl ?_
      refine VL.va (op_assign rfl (ltn rfl)) rfl ?_
      refine VL.done ?_
      refine VN.then ?_
      refine VC.ret ?_
      refine VR.block ?_
      refine VR.then ?_
      simp only [Option.some.injEq, Prod.mk.injEq] at h
      obtain ⟨rfl, rfl, rfl⟩ := h
      refine VR.nilRow' 9 1 ?_
      refine VR.nilFact' 5 ?_
      exact VR.fn (rs := [.cell 4 35, .tmp 5]) [.row (.slice none 0 0) 5 (([] : List S22).map enc22)] [((.slice none 0 0), 9, 1, ([] : List ByteArray).map enc_str)] [0] rfl (.cell 0 rfl rfl TI35 (fun h => absurd h (by decide)) (.tmp rfl .nil)) ⟨(.slice none 0 0), (.slice none 0 0), rfl, rfl, rfl⟩ ⟨⟨0, rfl⟩, trivial⟩ rfl (by decide)
  · rw [if_neg c1894] at h
    obtain rfl := Bool.eq_false_iff.2 c1894
    refine VL.va (op_not rfl rfl (ltn rfl)) rfl ?_
    refine VL.va (op_move rfl (ltn rfl)) rfl ?_
    refine VL.un rfl rfl (ltn rfl) ?_
    refine VL.un rfl rfl (ltn rfl) ?_
    refine VL.un rfl rfl (ltn rfl) ?_
    refine VL.va (op_pick rfl rfl (ltn rfl)) rfl ?_
    refine VL.va (op_assign rfl (ltn rfl)) rfl ?_
    refine VL.done ?_
    refine VN.then ?_
    refine VC.cond_t rfl ?_
    refine VC.seq ?_
    refine VC.region ?_
    refine VL.va (op_build (vals := []) (vcs := []) (cells := [.slice none 0 0, .slice none 0 0]) SI35 rfl .nil (by kernel_rfl) (ltn rfl)) rfl ?_
    refine VL.step1 (o_store 0 2 rfl rfl rfl TI35 (.agg (.of rfl)) rfl (len rfl)) rfl ?_
    refine VL.va (op_assign rfl (ltn rfl)) rfl ?_
    refine VL.done ?_
    refine VN.then ?_
    refine VC.ret ?_
    refine VR.block ?_
    refine VR.then ?_
    simp only [Option.some.injEq, Prod.mk.injEq] at h
    obtain ⟨rfl, rfl, rfl⟩ := h
    refine VR.nilRow' 9 1 ?_
    refine VR.nilFact' 5 ?_
    exact VR.fn (rs := [.cell 4 35, .tmp 5]) [.row (.slice none 0 0) 5 (([] : List S22).map enc22)] [((.slice none 0 0), 9, 1, ([] : List ByteArray).map enc_str)] [0] rfl (.cell 0 rfl rfl TI35 (fun h => absurd h (by decide)) (.tmp rfl .nil)) ⟨(.slice none 0 0), (.slice none 0 0), rfl, rfl, rfl⟩ ⟨⟨0, rfl⟩, trivial⟩ rfl (by decide)
set_option maxHeartbeats 4000000 in
set_option maxRecDepth 100000 in
theorem goods_Rule_1.ok (a0_0 : ByteArray) (a0_1 : ByteArray) (a0_2 : Int) (a0_3 : Int) (a0_4 : Int) (a1_0 : ByteArray) (a1_1 : ByteArray) (a1_2 : Int) (a1_3 : Int) (a1_4 : Int) (p1 : Nat) (r1 : Bool) (h : goods_Rule_1.f a0_0 a0_1 a0_2 a0_3 a0_4 a1_0 a1_1 a1_2 a1_3 a1_4 = some r1) :
    VCalls Try.prog 25 [.agg #[.string a0_0, .string a0_1, .int .i64 a0_2, .int .i64 a0_3, .int .i64 a0_4], .pointer (some ⟨p1, 0, none⟩)] [.at_ ⟨p1, 0, none⟩ [.string a1_0, .string a1_1, .int .i64 a1_2, .int .i64 a1_3, .int .i64 a1_4]] (fun v G own => v = .bool r1 ∧ G = [] ∧ own = []) := by
  refine VCalls.intro Try.func25 rfl (len rfl) fun E hC => ?_
  unfold goods_Rule_1.f at h
  refine VC.seq ?_
  refine VC.region ?_
  refine VL.sG (o_box rfl (.agg (.of rfl)) (ltn rfl)) rfl ?_
  intro g1961
  refine VL.va (op_assign rfl (ltn rfl)) rfl ?_
  refine VL.done ?_
  refine VN.then ?_
  refine VC.seq ?_
  refine VC.region ?_
  refine VL.va (op_fieldAddr FI23_0 rfl (add_at _ _ _) (ltn rfl)) rfl ?_
  refine VL.va (op_load 0 1 rfl rfl TI9 rfl (by decide) (ltn rfl)) rfl ?_
  refine VL.va (op_fieldAddr FI23_0 rfl (add_at _ _ _) (ltn rfl)) rfl ?_
  refine VL.va (op_load_at (ad := ⟨p1, 0, none⟩) 0 0 1 (by first | rfl | exact congrArg (fun a => some (Value.pointer (some a))) (add_at _ 0 _).symm) rfl TI9 rfl (by decide) (ltn rfl)) rfl ?_
  refine VL.letter ((a0_0 == a1_0)) fun b1967 hb1967 => ?_
  refine VL.va (op_cmps rfl rfl (congrArg some hb1967) (ltn rfl)) rfl ?_
  refine VL.va (op_move rfl (ltn rfl)) rfl ?_
  by_cases c1968 : (a0_0 == a1_0) = true
  · rw [if_pos c1968] at h
    obtain rfl : b1967 = true := hb1967.symm.trans (c1968)
    refine VL.va (op_fieldAddr FI23_2 rfl (add_at _ _ _) (ltn rfl)) rfl ?_
    refine VL.va (op_load 0 1 rfl rfl TI3 rfl (by decide) (ltn rfl)) rfl ?_
    refine VL.va (op_fieldAddr FI23_2 rfl (add_at _ _ _) (ltn rfl)) rfl ?_
    refine VL.va (op_load_at (ad := ⟨p1, 0, none⟩) 0 2 1 (by first | rfl | exact congrArg (fun a => some (Value.pointer (some a))) (add_at _ 0 _).symm) rfl TI3 rfl (by decide) (ltn rfl)) rfl ?_
    refine VL.letter ((a0_2 == a1_2)) fun b1969 hb1969 => ?_
    refine VL.va (op_cmp rfl rfl (congrArg some hb1969) (ltn rfl)) rfl ?_
    refine VL.va (op_move rfl (ltn rfl)) rfl ?_
    by_cases c1970 : a0_2 = a1_2
    · rw [if_pos c1970] at h
      obtain rfl : b1969 = true := hb1969.symm.trans (beq_iff_eq.2 c1970)
      refine VL.un rfl rfl (ltn rfl) ?_
      refine VL.un rfl rfl (ltn rfl) ?_
      refine VL.un rfl rfl (ltn rfl) ?_
      refine VL.un rfl rfl (ltn rfl) ?_
      refine VL.un rfl rfl (ltn rfl) ?_
      refine VL.va (op_pick rfl rfl (ltn rfl)) rfl ?_
      refine VL.va (op_pick rfl rfl (ltn rfl)) rfl ?_
      refine VL.va (op_assign rfl (ltn rfl)) rfl ?_
      refine VL.done ?_
      refine VN.then ?_
      refine VC.ret ?_
      obtain rfl := Option.some.inj h
      exact VR.fn (rs := [.tmp 3]) [] [] [] rfl (.tmp rfl .nil) ⟨rfl, rfl, rfl⟩ trivial rfl (by decide)
    · rw [if_neg c1970] at h
      obtain rfl : b1969 = false := hb1969.symm.trans (beq_eq_false_iff_ne.2 c1970)
      refine VL.va (op_fieldAddr FI23_1 rfl (add_at _ _ _) (ltn rfl)) rfl ?_
      refine VL.va (op_load 0 1 rfl rfl TI9 rfl (by decide) (ltn rfl)) rfl ?_
      refine VL.va (op_fieldAddr FI23_1 rfl (add_at _ _ _) (ltn rfl)) rfl ?_
      refine VL.va (op_load_at (ad := ⟨p1, 0, none⟩) 0 1 1 (by first | rfl | exact congrArg (fun a => some (Value.pointer (some a))) (add_at _ 0 _).symm) rfl TI9 rfl (by decide) (ltn rfl)) rfl ?_
      refine VL.letter ((a0_1 == a1_1)) fun b1971 hb1971 => ?_
      refine VL.va (op_cmps rfl rfl (congrArg some hb1971) (ltn rfl)) rfl ?_
      refine VL.va (op_pick rfl rfl (ltn rfl)) rfl ?_
      refine VL.va (op_pick rfl rfl (ltn rfl)) rfl ?_
      refine VL.va (op_assign rfl (ltn rfl)) rfl ?_
      refine VL.done ?_
      refine VN.then ?_
      refine VC.ret ?_
      obtain rfl := Option.some.inj h
      subst hb1971
      exact VR.fn (rs := [.tmp 3]) [] [] [] rfl (.tmp rfl .nil) ⟨rfl, rfl, rfl⟩ trivial rfl (by decide)
  · rw [if_neg c1968] at h
    obtain rfl : b1967 = false := hb1967.symm.trans (Bool.eq_false_iff.2 c1968)
    refine VL.un rfl rfl (ltn rfl) ?_
    refine VL.un rfl rfl (ltn rfl) ?_
    refine VL.un rfl rfl (ltn rfl) ?_
    refine VL.un rfl rfl (ltn rfl) ?_
    refine VL.un rfl rfl (ltn rfl) ?_
    refine VL.un rfl rfl (ltn rfl) ?_
    refine VL.un rfl rfl (ltn rfl) ?_
    refine VL.un rfl rfl (ltn rfl) ?_
    refine VL.un rfl rfl (ltn rfl) ?_
    refine VL.un rfl rfl (ltn rfl) ?_
    refine VL.un rfl rfl (ltn rfl) ?_
    refine VL.un rfl rfl (ltn rfl) ?_
    refine VL.va (op_pick rfl rfl (ltn rfl)) rfl ?_
    refine VL.va (op_assign rfl (ltn rfl)) rfl ?_
    refine VL.done ?_
    refine VN.then ?_
    refine VC.ret ?_
    obtain rfl := Option.some.inj h
    exact VR.fn (rs := [.tmp 3]) [] [] [] rfl (.tmp rfl .nil) ⟨rfl, rfl, rfl⟩ trivial rfl (by decide)
set_option maxHeartbeats 4000000 in
set_option maxRecDepth 100000 in
theorem slices_IndexFunc_api_Sub_api_Sub_s30.ok (k : Nat) (l0 : List S22) (a1_0_0 : ByteArray) (a1_0_1 : ByteArray) (a1_0_2 : Int) (a1_0_3 : Int) (a1_0_4 : Int) (v0 : Value) (p1_0 : Nat) (r1 : Int) (h : slices_IndexFunc_api_Sub_api_Sub_s30.f k l0 a1_0_0 a1_0_1 a1_0_2 a1_0_3 a1_0_4 = some r1) :
    VCalls Try.prog 44 [v0, (.func (.func 25) #[] #[.pointer (some ⟨p1_0, 0, none⟩)])] [.row v0 5 (l0.map enc22), .at_ ⟨p1_0, 0, none⟩ [.string a1_0_0, .string a1_0_1, .int .i64 a1_0_2, .int .i64 a1_0_3, .int .i64 a1_0_4]] (fun v G own => v = .int .i64 r1 ∧ G = [] ∧ own = []) := by
  refine VCalls.intro Try.func44 rfl (len rfl) fun E hC => ?_
  unfold slices_IndexFunc_api_Sub_api_Sub_s30.f at h
  refine VC.seq ?_
  refine VC.region ?_
  refine VL.va (op_assign rfl (ltn rfl)) rfl ?_
  refine VL.done ?_
  refine VN.then ?_
  refine VC.seq ?_
  refine VC.seq ?_
  refine VC.region ?_
  refine VL.va (op_move rfl (ltn rfl)) rfl ?_
  refine VL.va (op_len (m := l0.length) 0 lenm Try.underlying33 rfl rfl (ltn rfl)) rfl ?_
  refine VL.va (op_move rfl (ltn rfl)) rfl ?_
  refine VL.done ?_
  refine VN.then ?_
  refine VC.block ?_
  refine VC.loop1 (fun (i2031 : Int) => ⟨19, [(0, v0), (1, (.func (.func 25) #[] #[.pointer (some ⟨p1_0, 0, none⟩)])), (4, .int .i64 0), (7, .int .i64 (l0.length : Int)), (8, .int .i64 i2031)], [.at_ ⟨p1_0, 0, none⟩ [.string a1_0_0, .string a1_0_1, .int .i64 a1_0_2, .int .i64 a1_0_3, .int .i64 a1_0_4], .row v0 5 (l0.map enc22)], [], []⟩) (fun (ml1 : Nat) (i2031 : Int) => slices_IndexFunc_api_Sub_api_Sub_s30.l1 k a1_0_0 a1_0_1 a1_0_2 a1_0_3 a1_0_4 l0 ml1 i2031 = some r1) k 0 [] [] h ⟨rfl, ⟨rfl, rfl, rfl, rfl, rfl, trivial⟩, ⟨⟨1, rfl⟩, ⟨0, rfl⟩, trivial⟩, rfl, by decide, rfl, by decide⟩ (by intros; simp [slices_IndexFunc_api_Sub_api_Sub_s30.l1]) ?_
  clear h
  intro ml1 ihl1 i2031 h
  simp only [slices_IndexFunc_api_Sub_api_Sub_s30.l1] at h
  refine VC.seq ?_
  refine VC.region ?_
  refine VL.letter (decide (i2031 < (l0.length : Int))) fun b2049 hb2049 => ?_
  refine VL.va (op_cmp rfl rfl (congrArg some hb2049) (ltn rfl)) rfl ?_
  refine VL.done ?_
  refine VN.then ?_
  refine VC.seq ?_
  by_cases c2051 : i2031 < (l0.length : Int)
  · rw [if_pos c2051] at h
    obtain rfl : b2049 = true := hb2049.symm.trans (decide_eq_true c2051)
    refine VC.cond_t rfl ?_
    refine VC.skip ?_
    refine VN.then ?_
    refine VC.seq ?_
    refine VC.block ?_
    refine VC.seq ?_
    refine VC.region ?_
    refine VL.va (op_move rfl (ltn rfl)) rfl ?_
    refine VL.va (op_assign rfl (ltn rfl)) rfl ?_
    refine VL.done ?_
    refine VN.then ?_
    refine VC.seq ?_
    refine VC.region ?_
    refine VL.va (op_move rfl (ltn rfl)) rfl ?_
    refine VL.va (op_move rfl (ltn rfl)) rfl ?_
    refine VL.va (op_move rfl (ltn rfl)) rfl ?_
    by_cases c2059 : 0 ≤ i2031
    · rw [if_pos c2059] at h
      replace h := Option.bind_eq_some_iff.1 h
      obtain ⟨x2060, hx2060, h⟩ := h
      refine VL.open (m := l0.length) 1 lenm rfl (pos_get hx2060) ?_
      rintro ad2061 n2062 rfl
      refine VL.va (op_indexAddr Try.underlying33 TI23 rfl rfl c2059 (lt_get c2059 hx2060) rfl (ltn rfl)) rfl ?_
      refine VL.va (op_load_row (sz := 5) (o := 0) 1 i2031.toNat 5 rfl rfl (get_map hx2060) TI23 rfl (fun h => absurd h (by decide)) (ltn rfl)) rfl ?_
      replace h := Option.bind_eq_some_iff.1 h
      obtain ⟨t2063, hA2064, h⟩ := h
      refine VL.sC (o_call (vals := [.agg #[.string x2060.f0, .string x2060.f1, .int .i64 x2060.f2, .int .i64 x2060.f3, .int .i64 x2060.f4]]) (caps := [.pointer (some ⟨p1_0, 0, none⟩)]) FO25 (goods_Rule_1.ok x2060.f0 x2060.f1 x2060.f2 x2060.f3 x2060.f4 a1_0_0 a1_0_1 a1_0_2 a1_0_3 a1_0_4 p1_0 t2063 hA2064) rfl rfl (ltn rfl) (All_of (.cons (List.mem_of_getElem? (i := 0) rfl) .nil))) rfl ?_
      rintro _ _ _ ⟨rfl, rfl, rfl⟩
      refine VL.done ?_
      refine VN.then ?_
      by_cases c2065 : t2063 = true
      · rw [if_pos c2065] at h
        obtain rfl := c2065
        refine VC.cond_t rfl ?_
        refine VC.seq ?_
        refine VC.region ?_
        refine VL.va (op_move rfl (ltn rfl)) rfl ?_
        refine VL.va (op_assign rfl (ltn rfl)) rfl ?_
        refine VL.done ?_
        refine VN.then ?_
        refine VC.ret ?_
        refine VR.block ?_
        refine VR.then ?_
        refine VR.then ?_
        refine VR.block ?_
        refine VR.then ?_
        obtain rfl := Option.some.inj h
        exact VR.fn (rs := [.tmp 4]) [] [] [] rfl (.tmp rfl .nil) ⟨rfl, rfl, rfl⟩ trivial rfl (by decide)
      · rw [if_neg c2065] at h
        obtain rfl := Bool.eq_false_iff.2 c2065
        refine VC.cond_f rfl ?_
        refine VC.skip ?_
        refine VN.block ?_
        refine VN.then ?_
        refine VC.region ?_
        refine VL.va (op_ari64 rfl rfl rfl (ltn rfl)) rfl ?_
        refine VL.va (op_move rfl (ltn rfl)) rfl ?_
        refine VL.done ?_
        refine VN.again [] [] (ihl1 (wrap64 (i2031 + 1)) h) ⟨rfl, ⟨rfl, rfl, rfl, rfl, rfl, trivial⟩, ⟨⟨0, rfl⟩, ⟨1, rfl⟩, trivial⟩, rfl, by decide, rfl, by decide⟩
    · rw [if_neg c2059] at h; cases h
  · rw [if_neg c2051] at h
    obtain rfl : b2049 = false := hb2049.symm.trans (decide_eq_false c2051)
    refine VC.cond_f rfl ?_
    refine VC.exit ?_
    refine VX.then ?_
    refine VX.then ?_
    refine VX.hit ?_
    refine VN.then ?_
    refine VC.seq ?_
    refine VC.region ?_
    refine VL.va (op_assign rfl (ltn rfl)) rfl ?_
    refine VL.done ?_
    refine VN.then ?_
    refine VC.ret ?_
    obtain rfl := Option.some.inj h
    exact VR.fn (rs := [.tmp 4]) [] [] [] rfl (.tmp rfl .nil) ⟨rfl, rfl, rfl⟩ trivial rfl (by decide)
set_option maxHeartbeats 4000000 in
set_option maxRecDepth 100000 in
theorem slices_ContainsFunc_api_Sub_api_Sub_s30.ok (k : Nat) (l0 : List S22) (a1_0_0 : ByteArray) (a1_0_1 : ByteArray) (a1_0_2 : Int) (a1_0_3 : Int) (a1_0_4 : Int) (v0 : Value) (p1_0 : Nat) (r1 : Bool) (h : slices_ContainsFunc_api_Sub_api_Sub_s30.f k l0 a1_0_0 a1_0_1 a1_0_2 a1_0_3 a1_0_4 = some r1) :
    VCalls Try.prog 27 [v0, (.func (.func 25) #[] #[.pointer (some ⟨p1_0, 0, none⟩)])] [.row v0 5 (l0.map enc22), .at_ ⟨p1_0, 0, none⟩ [.string a1_0_0, .string a1_0_1, .int .i64 a1_0_2, .int .i64 a1_0_3, .int .i64 a1_0_4]] (fun v G own => v = .bool r1 ∧ G = [] ∧ own = []) := by
  refine VCalls.intro Try.func27 rfl (len rfl) fun E hC => ?_
  unfold slices_ContainsFunc_api_Sub_api_Sub_s30.f at h
  refine VC.seq ?_
  refine VC.region ?_
  refine VL.va (op_assign rfl (ltn rfl)) rfl ?_
  refine VL.done ?_
  refine VN.then ?_
  refine VC.seq ?_
  refine VC.region ?_
  refine VL.va (op_move rfl (ltn rfl)) rfl ?_
  refine VL.va (op_move rfl (ltn rfl)) rfl ?_
  replace h := Option.bind_eq_some_iff.1 h
  obtain ⟨t2066, hA2067, h⟩ := h
  refine VL.sC (o_call0 FO44 (slices_IndexFunc_api_Sub_api_Sub_s30.ok k l0 a1_0_0 a1_0_1 a1_0_2 a1_0_3 a1_0_4 v0 p1_0 t2066 hA2067) rfl rfl (ltn rfl) (All_of (.cons (List.mem_of_getElem? (i := 0) rfl) (.cons (List.mem_of_getElem? (i := 1) rfl) .nil)))) rfl ?_
  rintro _ _ _ ⟨rfl, rfl, rfl⟩
  refine VL.letter (decide (t2066 ≥ 0)) fun b2068 hb2068 => ?_
  refine VL.va (op_cmp rfl rfl (congrArg some hb2068) (ltn rfl)) rfl ?_
  refine VL.va (op_assign rfl (ltn rfl)) rfl ?_
  refine VL.done ?_
  refine VN.then ?_
  refine VC.ret ?_
  obtain rfl := Option.some.inj h
  subst hb2068
  exact VR.fn (rs := [.tmp 4]) [] [] [] rfl (.tmp rfl .nil) ⟨rfl, rfl, rfl⟩ trivial rfl (by decide)
set_option maxHeartbeats 4000000 in
set_option maxRecDepth 100000 in
theorem slices_BinarySearchFunc_api_Sub_api_Sub_api_Sub.ok (k : Nat) (l0 : List S22) (a1_0 : ByteArray) (a1_1 : ByteArray) (a1_2 : Int) (a1_3 : Int) (a1_4 : Int) (v0 : Value) (r1 : Int) (r2 : Bool) (h : slices_BinarySearchFunc_api_Sub_api_Sub_api_Sub.f k l0 a1_0 a1_1 a1_2 a1_3 a1_4 = some (r1, r2)) :
    VCalls Try.prog 45 [v0, .agg #[.string a1_0, .string a1_1, .int .i64 a1_2, .int .i64 a1_3, .int .i64 a1_4], (.func (.func 29) #[] #[])] [.row v0 5 (l0.map enc22)] (fun v G own => v = .tuple #[.int .i64 r1, .bool r2] ∧ G = [] ∧ own = []) := by
  refine VCalls.intro Try.func45 rfl (len rfl) fun E hC => ?_
  unfold slices_BinarySearchFunc_api_Sub_api_Sub_api_Sub.f at h
  refine VC.seq ?_
  refine VC.region ?_
  refine VL.sG (o_box rfl (.agg (.of rfl)) (ltn rfl)) rfl ?_
  intro g2122
  refine VL.va (op_assign rfl (ltn rfl)) rfl ?_
  refine VL.va (op_assign rfl (ltn rfl)) rfl ?_
  refine VL.done ?_
  refine VN.then ?_
  refine VC.seq ?_
  refine VC.region ?_
  refine VL.va (op_move rfl (ltn rfl)) rfl ?_
  refine VL.va (op_len (m := l0.length) 0 lenm Try.underlying33 rfl rfl (ltn rfl)) rfl ?_
  refine VL.va (op_assign rfl (ltn rfl)) rfl ?_
  refine VL.done ?_
  refine VN.then ?_
  refine VC.seq ?_
  refine VC.region ?_
  refine VL.va (op_move rfl (ltn rfl)) rfl ?_
  refine VL.va (op_assign rfl (ltn rfl)) rfl ?_
  refine VL.va (op_assign rfl (ltn rfl)) rfl ?_
  refine VL.done ?_
  refine VN.then ?_
  refine VC.seq ?_
  refine VC.block ?_
  refine VC.loop2 (fun (i2167 : Int) (i2168 : Int) => ⟨49, [(0, v0), (2, (.func (.func 29) #[] #[])), (4, .pointer (some ⟨g2122, 0, none⟩)), (6, .int .i64 0), (7, .bool false), (8, .int .i64 (l0.length : Int)), (9, .int .i64 i2167), (10, .int .i64 i2168)], [.row v0 5 (l0.map enc22)], [(g2122, 23, [.string a1_0, .string a1_1, .int .i64 a1_2, .int .i64 a1_3, .int .i64 a1_4])], []⟩) (fun (ml1 : Nat) (i2167 : Int) (i2168 : Int) => slices_BinarySearchFunc_api_Sub_api_Sub_api_Sub.l1 k a1_0 a1_1 a1_2 a1_3 a1_4 l0 ml1 i2167 i2168 = some (r1, r2)) k 0 (l0.length : Int) [0] [] h ⟨rfl, ⟨rfl, rfl, rfl, rfl, rfl, rfl, rfl, rfl, trivial⟩, ⟨⟨0, rfl⟩, trivial⟩, rfl, by decide, rfl, by decide⟩ (by intros; simp [slices_BinarySearchFunc_api_Sub_api_Sub_api_Sub.l1]) ?_
  clear h
  intro ml1 ihl1 i2167 i2168 h
  simp only [slices_BinarySearchFunc_api_Sub_api_Sub_api_Sub.l1] at h
  refine VC.seq ?_
  refine VC.seq ?_
  refine VC.region ?_
  refine VL.va (op_move rfl (ltn rfl)) rfl ?_
  refine VL.va (op_move rfl (ltn rfl)) rfl ?_
  refine VL.letter (decide (i2167 < i2168)) fun b2188 hb2188 => ?_
  refine VL.va (op_cmp rfl rfl (congrArg some hb2188) (ltn rfl)) rfl ?_
  refine VL.done ?_
  refine VN.then ?_
  by_cases c2189 : i2167 < i2168
  · rw [if_pos c2189] at h
    obtain rfl : b2188 = true := hb2188.symm.trans (decide_eq_true c2189)
    refine VC.cond_t rfl ?_
    refine VC.skip ?_
    refine VN.then ?_
    refine VC.block ?_
    refine VC.seq ?_
    refine VC.region ?_
    refine VL.va (op_move rfl (ltn rfl)) rfl ?_
    refine VL.va (op_move rfl (ltn rfl)) rfl ?_
    refine VL.va (op_ari64 rfl rfl rfl (ltn rfl)) rfl ?_
    refine VL.va (op_conv Try.underlying3 Try.underlying78 rfl rfl (ltn rfl)) rfl ?_
    refine VL.va (op_shr rfl rfl (by decide) rfl (ltn rfl)) rfl ?_
    refine VL.va (op_conv Try.underlying78 Try.underlying3 rfl (i64w _) (ltn rfl)) rfl ?_
    refine VL.va (op_assign rfl (ltn rfl)) rfl ?_
    refine VL.done ?_
    refine VN.then ?_
    by_cases c2190 : 0 ≤ wrap64 ((IntKind.u64.wrap (wrap64 (i2167 + i2168))).fdiv (2 ^ min (1 : Int).toNat IntKind.u64.bits))
    · rw [if_pos c2190] at h
      replace h := Option.bind_eq_some_iff.1 h
      obtain ⟨x2191, hx2191, h⟩ := h
      replace h := Option.bind_eq_some_iff.1 h
      obtain ⟨t2192, hA2193, h⟩ := h
      refine VC.letter (decide (t2192 < 0)) fun b2194 hb2194 => ?_
      refine VC.open (m := l0.length) 0 lenm rfl (pos_get hx2191) ?_
      rintro ad2129 n2130 rfl
      refine VC.join0 (⟨49, [(0, (.slice (some ad2129) l0.length n2130)), (2, (.func (.func 29) #[] #[])), (4, .pointer (some ⟨g2122, 0, none⟩)), (6, .int .i64 0), (7, .bool false), (8, .int .i64 (l0.length : Int)), (9, .int .i64 i2167), (10, .int .i64 i2168), (11, .int .i64 (wrap64 ((IntKind.u64.wrap (wrap64 (i2167 + i2168))).fdiv (2 ^ min (1 : Int).toNat IntKind.u64.bits)))), (15, .int .i64 i2167), (16, .int .i64 i2168), (17, .bool true), (18, .int .i64 i2167), (19, .int .i64 i2168), (20, .int .i64 (wrap64 (i2167 + i2168))), (21, .int .u64 (IntKind.u64.wrap (wrap64 (i2167 + i2168)))), (22, .int .u64 ((IntKind.u64.wrap (wrap64 (i2167 + i2168))).fdiv (2 ^ min (1 : Int).toNat IntKind.u64.bits))), (23, .int .i64 (wrap64 ((IntKind.u64.wrap (wrap64 (i2167 + i2168))).fdiv (2 ^ min (1 : Int).toNat IntKind.u64.bits)))), (24, (.func (.func 29) #[] #[])), (25, (.slice (some ad2129) l0.length n2130)), (26, .int .i64 (wrap64 ((IntKind.u64.wrap (wrap64 (i2167 + i2168))).fdiv (2 ^ min (1 : Int).toNat IntKind.u64.bits)))), (28, .agg #[.string x2191.f0, .string x2191.f1, .int .i64 x2191.f2, .int .i64 x2191.f3, .int .i64 x2191.f4]), (29, .agg #[.string a1_0, .string a1_1, .int .i64 a1_2, .int .i64 a1_3, .int .i64 a1_4]), (30, .int .i64 t2192), (31, .bool b2194)], [.row (.slice (some ad2129) l0.length n2130) 5 (l0.map enc22)], [(g2122, 23, [.string a1_0, .string a1_1, .int .i64 a1_2, .int .i64 a1_3, .int .i64 a1_4])], []⟩) (True) ?_ ?_
      · refine VC.draw ⟨0, [], [.row (.slice (some ad2129) l0.length n2130) 5 (l0.map enc22)], [(g2122, 23, [.string a1_0, .string a1_1, .int .i64 a1_2, .int .i64 a1_3, .int .i64 a1_4])], []⟩ (by kernel_rfl) rfl (by kernel_rfl) (n := 8) (listed := LB 8 0) ?_
        refine VA.va (i := 0) (listed' := LB 8 1) rfl (op_move rfl (ltn rfl)) rfl (by kernel_rfl) (by kernel_rfl) (by kernel_rfl) (by kernel_rfl) ⟨⟨⟨0, rfl⟩, trivial⟩, ⟨⟨0, rfl⟩, trivial⟩, trivial⟩ (fun _ _ _ h => h) ?_
        refine VA.va (i := 1) (listed' := LB 8 3) rfl (op_move rfl (ltn rfl)) rfl (by kernel_rfl) (by kernel_rfl) (by kernel_rfl) (by kernel_rfl) ⟨⟨⟨0, rfl⟩, trivial⟩, ⟨⟨0, rfl⟩, trivial⟩, trivial⟩ (fun _ _ _ h => h) ?_
        refine VA.va (i := 2) (listed' := LB 8 7) rfl (op_move rfl (ltn rfl)) rfl (by kernel_rfl) (by kernel_rfl) (by kernel_rfl) (by kernel_rfl) ⟨⟨⟨0, rfl⟩, trivial⟩, ⟨⟨0, rfl⟩, trivial⟩, trivial⟩ (fun _ _ _ h => h) ?_
        refine VA.va (i := 3) (listed' := LB 8 15) rfl (op_indexAddr Try.underlying33 TI23 rfl rfl c2190 (lt_get c2190 hx2191) rfl (ltn rfl)) rfl (by kernel_rfl) (by kernel_rfl) (by kernel_rfl) (by kernel_rfl) ⟨⟨⟨0, rfl⟩, trivial⟩, ⟨⟨0, rfl⟩, trivial⟩, trivial⟩ (fun _ _ _ h => h) ?_
        refine VA.va (i := 4) (listed' := LB 8 31) rfl (op_load_row (sz := 5) (o := 0) 0 (wrap64 ((IntKind.u64.wrap (wrap64 (i2167 + i2168))).fdiv (2 ^ min (1 : Int).toNat IntKind.u64.bits))).toNat 5 rfl rfl (get_map hx2191) TI23 rfl (fun h => absurd h (by decide)) (ltn rfl)) rfl (by kernel_rfl) (by kernel_rfl) (by kernel_rfl) (by kernel_rfl) ⟨⟨⟨0, rfl⟩, trivial⟩, ⟨⟨0, rfl⟩, trivial⟩, trivial⟩ (fun _ _ _ h => h) ?_
        refine VA.va (i := 5) (listed' := LB 8 63) rfl (op_load 0 5 rfl rfl TI23 rfl (fun h => absurd h (by decide)) (ltn rfl)) rfl (by kernel_rfl) (by kernel_rfl) (by kernel_rfl) (by kernel_rfl) ⟨⟨⟨0, rfl⟩, trivial⟩, ⟨⟨0, rfl⟩, trivial⟩, trivial⟩ (fun _ _ _ h => h) ?_
        refine VA.oneC (i := 6) (listed' := LB 8 127) (by kernel_rfl) rfl (o_call0 FO29 (goods_compare.ok k x2191.f0 x2191.f1 x2191.f2 x2191.f3 x2191.f4 a1_0 a1_1 a1_2 a1_3 a1_4 t2192 hA2193) rfl rfl (ltn rfl) (All_of .nil)) rfl (by kernel_rfl) ?_
        rintro _ _ _ ⟨rfl, rfl, rfl⟩
        refine ⟨⟨⟨⟨0, rfl⟩, trivial⟩, ⟨⟨0, rfl⟩, trivial⟩, trivial⟩, ?_⟩
        refine VA.va (i := 7) (listed' := LB 8 255) rfl (op_cmp rfl rfl (congrArg some hb2194) (ltn rfl)) rfl (by kernel_rfl) (by kernel_rfl) (by kernel_rfl) (by kernel_rfl) ⟨⟨⟨0, rfl⟩, trivial⟩, ⟨⟨0, rfl⟩, trivial⟩, trivial⟩ (fun _ _ _ h => h) ?_
        refine VA.done (by kernel_rfl) ?_
        exact VN.meet0  [0] [] trivial ⟨rfl, ⟨rfl, rfl, rfl, rfl, rfl, rfl, rfl, rfl, rfl, rfl, rfl, rfl, rfl, rfl, rfl, rfl, rfl, rfl, rfl, rfl, rfl, rfl, rfl, rfl, rfl, trivial⟩, ⟨⟨0, rfl⟩, trivial⟩, rfl, by decide, rfl, by decide⟩
      intro _
      by_cases c2195 : t2192 < 0
      · rw [if_pos c2195] at h
        obtain rfl : b2194 = true := hb2194.symm.trans (decide_eq_true c2195)
        refine VC.cond_t rfl ?_
        refine VC.region ?_
        refine VL.va (op_move rfl (ltn rfl)) rfl ?_
        refine VL.va (op_ari64 rfl rfl rfl (ltn rfl)) rfl ?_
        refine VL.va (op_assign rfl (ltn rfl)) rfl ?_
        refine VL.done ?_
        refine VN.block ?_
        refine VN.again [0] [] (ihl1 (wrap64 ((wrap64 ((IntKind.u64.wrap (wrap64 (i2167 + i2168))).fdiv (2 ^ min (1 : Int).toNat IntKind.u64.bits))) + 1)) i2168 h) ⟨rfl, ⟨rfl, rfl, rfl, rfl, rfl, rfl, rfl, rfl, trivial⟩, ⟨⟨0, rfl⟩, trivial⟩, rfl, by decide, rfl, by decide⟩
      · rw [if_neg c2195] at h
        obtain rfl : b2194 = false := hb2194.symm.trans (decide_eq_false c2195)
        refine VC.cond_f rfl ?_
        refine VC.region ?_
        refine VL.va (op_move rfl (ltn rfl)) rfl ?_
        refine VL.va (op_assign rfl (ltn rfl)) rfl ?_
        refine VL.done ?_
        refine VN.block ?_
        refine VN.again [0] [] (ihl1 i2167 (wrap64 ((IntKind.u64.wrap (wrap64 (i2167 + i2168))).fdiv (2 ^ min (1 : Int).toNat IntKind.u64.bits))) h) ⟨rfl, ⟨rfl, rfl, rfl, rfl, rfl, rfl, rfl, rfl, trivial⟩, ⟨⟨0, rfl⟩, trivial⟩, rfl, by decide, rfl, by decide⟩
    · rw [if_neg c2190] at h; cases h
  · rw [if_neg c2189] at h
    obtain rfl : b2188 = false := hb2188.symm.trans (decide_eq_false c2189)
    refine VC.cond_f rfl ?_
    refine VC.exit ?_
    refine VX.then ?_
    refine VX.then ?_
    refine VX.hit ?_
    refine VN.then ?_
    refine VC.letter (decide (i2167 < (l0.length : Int))) fun b2196 hb2196 => ?_
    by_cases c2197 : i2167 < (l0.length : Int)
    · rw [if_pos c2197] at h
      obtain rfl : b2196 = true := hb2196.symm.trans (decide_eq_true c2197)
      by_cases c2198 : 0 ≤ i2167
      · rw [if_pos c2198] at h
        replace h := Option.bind_eq_some_iff.1 h
        obtain ⟨x2199, hx2199, h⟩ := h
        replace h := Option.bind_eq_some_iff.1 h
        obtain ⟨t2200, hA2201, h⟩ := h
        refine VC.letter ((t2200 == 0)) fun b2202 hb2202 => ?_
        refine VC.open (m := l0.length) 0 lenm rfl (pos_get hx2199) ?_
        rintro ad2129 n2130 rfl
        refine VC.join0 (⟨49, [(6, .int .i64 i2167), (7, .bool b2202)], [], [], []⟩) (True) ?_ ?_
        · refine VC.draw ⟨0, [], [.row (.slice (some ad2129) l0.length n2130) 5 (l0.map enc22)], [(g2122, 23, [.string a1_0, .string a1_1, .int .i64 a1_2, .int .i64 a1_3, .int .i64 a1_4])], []⟩ (by kernel_rfl) rfl (by kernel_rfl) (n := 16) (listed := LB 16 0) ?_
          refine VA.va (i := 0) (listed' := LB 16 1) rfl (op_move rfl (ltn rfl)) rfl (by kernel_rfl) (by kernel_rfl) (by kernel_rfl) (by kernel_rfl) ⟨⟨⟨0, rfl⟩, trivial⟩, ⟨⟨0, rfl⟩, trivial⟩, trivial⟩ (fun _ _ _ h => h) ?_
          refine VA.va (i := 1) (listed' := LB 16 3) rfl (op_move rfl (ltn rfl)) rfl (by kernel_rfl) (by kernel_rfl) (by kernel_rfl) (by kernel_rfl) ⟨⟨⟨0, rfl⟩, trivial⟩, ⟨⟨0, rfl⟩, trivial⟩, trivial⟩ (fun _ _ _ h => h) ?_
          refine VA.va (i := 2) (listed' := LB 16 7) rfl (op_move rfl (ltn rfl)) rfl (by kernel_rfl) (by kernel_rfl) (by kernel_rfl) (by kernel_rfl) ⟨⟨⟨0, rfl⟩, trivial⟩, ⟨⟨0, rfl⟩, trivial⟩, trivial⟩ (fun _ _ _ h => h) ?_
          refine VA.va (i := 3) (listed' := LB 16 15) rfl (op_cmp rfl rfl (congrArg some hb2196) (ltn rfl)) rfl (by kernel_rfl) (by kernel_rfl) (by kernel_rfl) (by kernel_rfl) ⟨⟨⟨0, rfl⟩, trivial⟩, ⟨⟨0, rfl⟩, trivial⟩, trivial⟩ (fun _ _ _ h => h) ?_
          refine VA.va (i := 4) (listed' := LB 16 31) rfl (op_move rfl (ltn rfl)) rfl (by kernel_rfl) (by kernel_rfl) (by kernel_rfl) (by kernel_rfl) ⟨⟨⟨0, rfl⟩, trivial⟩, ⟨⟨0, rfl⟩, trivial⟩, trivial⟩ (fun _ _ _ h => h) ?_
          refine VA.va (i := 5) (listed' := LB 16 63) rfl (op_move rfl (ltn rfl)) rfl (by kernel_rfl) (by kernel_rfl) (by kernel_rfl) (by kernel_rfl) ⟨⟨⟨0, rfl⟩, trivial⟩, ⟨⟨0, rfl⟩, trivial⟩, trivial⟩ (fun _ _ _ h => h) ?_
          refine VA.va (i := 6) (listed' := LB 16 127) rfl (op_move rfl (ltn rfl)) rfl (by kernel_rfl) (by kernel_rfl) (by kernel_rfl) (by kernel_rfl) ⟨⟨⟨0, rfl⟩, trivial⟩, ⟨⟨0, rfl⟩, trivial⟩, trivial⟩ (fun _ _ _ h => h) ?_
          refine VA.va (i := 7) (listed' := LB 16 255) rfl (op_move rfl (ltn rfl)) rfl (by kernel_rfl) (by kernel_rfl) (by kernel_rfl) (by kernel_rfl) ⟨⟨⟨0, rfl⟩, trivial⟩, ⟨⟨0, rfl⟩, trivial⟩, trivial⟩ (fun _ _ _ h => h) ?_
          refine VA.va (i := 8) (listed' := LB 16 511) rfl (op_indexAddr Try.underlying33 TI23 rfl rfl c2198 (lt_get c2198 hx2199) rfl (ltn rfl)) rfl (by kernel_rfl) (by kernel_rfl) (by kernel_rfl) (by kernel_rfl) ⟨⟨⟨0, rfl⟩, trivial⟩, ⟨⟨0, rfl⟩, trivial⟩, trivial⟩ (fun _ _ _ h => h) ?_
          refine VA.va (i := 9) (listed' := LB 16 1023) rfl (op_load_row (sz := 5) (o := 0) 0 i2167.toNat 5 rfl rfl (get_map hx2199) TI23 rfl (fun h => absurd h (by decide)) (ltn rfl)) rfl (by kernel_rfl) (by kernel_rfl) (by kernel_rfl) (by kernel_rfl) ⟨⟨⟨0, rfl⟩, trivial⟩, ⟨⟨0, rfl⟩, trivial⟩, trivial⟩ (fun _ _ _ h => h) ?_
          refine VA.va (i := 10) (listed' := LB 16 2047) rfl (op_load 0 5 rfl rfl TI23 rfl (fun h => absurd h (by decide)) (ltn rfl)) rfl (by kernel_rfl) (by kernel_rfl) (by kernel_rfl) (by kernel_rfl) ⟨⟨⟨0, rfl⟩, trivial⟩, ⟨⟨0, rfl⟩, trivial⟩, trivial⟩ (fun _ _ _ h => h) ?_
          refine VA.oneC (i := 11) (listed' := LB 16 4095) (by kernel_rfl) rfl (o_call0 FO29 (goods_compare.ok k x2199.f0 x2199.f1 x2199.f2 x2199.f3 x2199.f4 a1_0 a1_1 a1_2 a1_3 a1_4 t2200 hA2201) rfl rfl (ltn rfl) (All_of .nil)) rfl (by kernel_rfl) ?_
          rintro _ _ _ ⟨rfl, rfl, rfl⟩
          refine ⟨⟨⟨⟨0, rfl⟩, trivial⟩, ⟨⟨0, rfl⟩, trivial⟩, trivial⟩, ?_⟩
          refine VA.va (i := 12) (listed' := LB 16 8191) rfl (op_cmp rfl rfl (congrArg some hb2202) (ltn rfl)) rfl (by kernel_rfl) (by kernel_rfl) (by kernel_rfl) (by kernel_rfl) ⟨⟨⟨0, rfl⟩, trivial⟩, ⟨⟨0, rfl⟩, trivial⟩, trivial⟩ (fun _ _ _ h => h) ?_
          refine VA.va (i := 13) (listed' := LB 16 16383) rfl (op_pick rfl rfl (ltn rfl)) rfl (by kernel_rfl) (by kernel_rfl) (by kernel_rfl) (by kernel_rfl) ⟨⟨⟨0, rfl⟩, trivial⟩, ⟨⟨0, rfl⟩, trivial⟩, trivial⟩ (fun _ _ _ h => h) ?_
          refine VA.va (i := 14) (listed' := LB 16 32767) rfl (op_assign rfl (ltn rfl)) rfl (by kernel_rfl) (by kernel_rfl) (by kernel_rfl) (by kernel_rfl) ⟨⟨⟨0, rfl⟩, trivial⟩, ⟨⟨0, rfl⟩, trivial⟩, trivial⟩ (fun _ _ _ h => h) ?_
          refine VA.va (i := 15) (listed' := LB 16 65535) rfl (op_assign rfl (ltn rfl)) rfl (by kernel_rfl) (by kernel_rfl) (by kernel_rfl) (by kernel_rfl) ⟨⟨⟨0, rfl⟩, trivial⟩, ⟨⟨0, rfl⟩, trivial⟩, trivial⟩ (fun _ _ _ h => h) ?_
          refine VA.done (by kernel_rfl) ?_
          exact VN.meet0  [] [] trivial ⟨rfl, ⟨rfl, rfl, trivial⟩, trivial, rfl, by decide, rfl, by decide⟩
        intro _
        refine VC.ret ?_
        simp only [Option.some.injEq, Prod.mk.injEq] at h
        obtain ⟨rfl, rfl⟩ := h
        subst hb2202
        exact VR.fn (rs := [.tmp 6, .tmp 7]) [] [] [] rfl (.tmp rfl (.tmp rfl .nil)) ⟨rfl, rfl, rfl⟩ trivial rfl (by decide)
      · rw [if_neg c2198] at h; cases h
    · rw [if_neg c2197] at h
      obtain rfl : b2196 = false := hb2196.symm.trans (decide_eq_false c2197)
      refine VC.join0 (⟨49, [(6, .int .i64 i2167), (7, .bool false)], [], [], []⟩) (True) ?_ ?_
      · refine VC.draw ⟨0, [], [], [], []⟩ (by kernel_rfl) rfl (by kernel_rfl) (n := 16) (listed := LB 16 0) ?_
        refine VA.va (i := 0) (listed' := LB 16 1) rfl (op_move rfl (ltn rfl)) rfl (by kernel_rfl) (by kernel_rfl) (by kernel_rfl) (by kernel_rfl) ⟨trivial, trivial, trivial⟩ (fun _ _ _ h => h) ?_
        refine VA.va (i := 1) (listed' := LB 16 3) rfl (op_move rfl (ltn rfl)) rfl (by kernel_rfl) (by kernel_rfl) (by kernel_rfl) (by kernel_rfl) ⟨trivial, trivial, trivial⟩ (fun _ _ _ h => h) ?_
        refine VA.va (i := 2) (listed' := LB 16 7) rfl (op_move rfl (ltn rfl)) rfl (by kernel_rfl) (by kernel_rfl) (by kernel_rfl) (by kernel_rfl) ⟨trivial, trivial, trivial⟩ (fun _ _ _ h => h) ?_
        refine VA.va (i := 3) (listed' := LB 16 15) rfl (op_cmp rfl rfl (congrArg some hb2196) (ltn rfl)) rfl (by kernel_rfl) (by kernel_rfl) (by kernel_rfl) (by kernel_rfl) ⟨trivial, trivial, trivial⟩ (fun _ _ _ h => h) ?_
        refine VA.va (i := 4) (listed' := LB 16 31) rfl (op_move rfl (ltn rfl)) rfl (by kernel_rfl) (by kernel_rfl) (by kernel_rfl) (by kernel_rfl) ⟨trivial, trivial, trivial⟩ (fun _ _ _ h => h) ?_
        refine VA.un (i := 5) (listed' := LB 16 63) rfl rfl rfl (ltn rfl) (by kernel_rfl) (by kernel_rfl) (by kernel_rfl) (by kernel_rfl) ⟨trivial, trivial, trivial⟩ (fun _ _ _ h => h) ?_
        refine VA.un (i := 6) (listed' := LB 16 127) rfl rfl rfl (ltn rfl) (by kernel_rfl) (by kernel_rfl) (by kernel_rfl) (by kernel_rfl) ⟨trivial, trivial, trivial⟩ (fun _ _ _ h => h) ?_
        refine VA.un (i := 7) (listed' := LB 16 255) rfl rfl rfl (ltn rfl) (by kernel_rfl) (by kernel_rfl) (by kernel_rfl) (by kernel_rfl) ⟨trivial, trivial, trivial⟩ (fun _ _ _ h => h) ?_
        refine VA.un (i := 8) (listed' := LB 16 511) rfl rfl rfl (ltn rfl) (by kernel_rfl) (by kernel_rfl) (by kernel_rfl) (by kernel_rfl) ⟨trivial, trivial, trivial⟩ (fun _ _ _ h => h) ?_
        refine VA.un (i := 9) (listed' := LB 16 1023) rfl rfl rfl (ltn rfl) (by kernel_rfl) (by kernel_rfl) (by kernel_rfl) (by kernel_rfl) ⟨trivial, trivial, trivial⟩ (fun _ _ _ h => h) ?_
        refine VA.un (i := 10) (listed' := LB 16 2047) rfl rfl rfl (ltn rfl) (by kernel_rfl) (by kernel_rfl) (by kernel_rfl) (by kernel_rfl) ⟨trivial, trivial, trivial⟩ (fun _ _ _ h => h) ?_
        refine VA.un (i := 11) (listed' := LB 16 4095) rfl rfl rfl (ltn rfl) (by kernel_rfl) (by kernel_rfl) (by kernel_rfl) (by kernel_rfl) ⟨trivial, trivial, trivial⟩ (fun _ _ _ h => h) ?_
        refine VA.un (i := 12) (listed' := LB 16 8191) rfl rfl rfl (ltn rfl) (by kernel_rfl) (by kernel_rfl) (by kernel_rfl) (by kernel_rfl) ⟨trivial, trivial, trivial⟩ (fun _ _ _ h => h) ?_
        refine VA.va (i := 13) (listed' := LB 16 16383) rfl (op_pick rfl rfl (ltn rfl)) rfl (by kernel_rfl) (by kernel_rfl) (by kernel_rfl) (by kernel_rfl) ⟨trivial, trivial, trivial⟩ (fun _ _ _ h => h) ?_
        refine VA.va (i := 14) (listed' := LB 16 32767) rfl (op_assign rfl (ltn rfl)) rfl (by kernel_rfl) (by kernel_rfl) (by kernel_rfl) (by kernel_rfl) ⟨trivial, trivial, trivial⟩ (fun _ _ _ h => h) ?_
        refine VA.va (i := 15) (listed' := LB 16 65535) rfl (op_assign rfl (ltn rfl)) rfl (by kernel_rfl) (by kernel_rfl) (by kernel_rfl) (by kernel_rfl) ⟨trivial, trivial, trivial⟩ (fun _ _ _ h => h) ?_
        refine VA.done (by kernel_rfl) ?_
        exact VN.meet0  [] [] trivial ⟨rfl, ⟨rfl, rfl, trivial⟩, trivial, rfl, by decide, rfl, by decide⟩
      intro _
      refine VC.ret ?_
      simp only [Option.some.injEq, Prod.mk.injEq] at h
      obtain ⟨rfl, rfl⟩ := h
      exact VR.fn (rs := [.tmp 6, .tmp 7]) [] [] [] rfl (.tmp rfl (.tmp rfl .nil)) ⟨rfl, rfl, rfl⟩ trivial rfl (by decide)
set_option maxHeartbeats 4000000 in
set_option maxRecDepth 100000 in
theorem slices_Clone_api_Sub_api_Sub.ok (l0 : List S22) (v0 : Value) (r1 : List S22) (h : slices_Clone_api_Sub_api_Sub.f l0 = some r1) :
    VCalls Try.prog 31 [v0] [.row v0 5 (l0.map enc22)] (fun v G own => ∃ w0 : Value, v = w0 ∧ G = [] ∧ own = [(w0, 23, 5, r1.map enc22)]) := by
  unfold slices_Clone_api_Sub_api_Sub.f at h
  by_cases hc : ¬ (l0.length * 56 ≤ 140737488355328)
  · rw [if_neg hc] at h; cases h
  replace hc := Decidable.not_not.1 hc
  rw [if_pos hc] at h
  obtain rfl := Option.some.inj h
  clear h
  refine VCalls.intro Try.func31 rfl (len rfl) fun E hC => ?_
  refine VC.formF 0 rfl fun A cap hv h1 h2 h3 => ?_
  rw [lenm] at hv h1 h3
  subst hv
  refine VC.seq (VC.region ?_)
  refine VL.va (op_assign rfl (ltn rfl)) rfl ?_
  refine VL.done (VN.then ?_)
  refine VC.seq ?_
  refine VC.seq (VC.region ?_)
  refine VL.va (op_move rfl (ltn rfl)) rfl ?_
  refine VL.va (op_isnil Try.underlying33 rfl rfl (ltn rfl)) rfl ?_
  refine VL.done (VN.then ?_)
  cases A with
  | none =>
    have e : l0 = [] := List.eq_nil_of_length_eq_zero (h3 rfl)
    subst e
    refine VC.cond_t rfl ?_
    refine VC.seq (VC.region ?_)
    refine VL.va (op_assign rfl (ltn rfl)) rfl ?_
    refine VL.done (VN.then ?_)
    refine VC.ret (VR.then ?_)
    refine VR.nilRow' 23 5 ?_
    exact VR.fn (rs := [.tmp 2]) [] [(.slice none 0 0, 23, 5, [])] [0] rfl (.tmp rfl .nil) ⟨_, rfl, rfl, rfl⟩ trivial rfl (by decide)
  | some ad =>
    refine VC.cond_f rfl (VC.skip (VN.then ?_))
    refine VC.seq (VC.region ?_)
    refine VL.sG (o_buildSlice (vals := []) (cells := #[]) (es := List.map enc22 ([] : List S22)) Try.underlying33 TI23 Z23 rfl (by decide) (by decide) (by kernel_rfl) rfl rfl (flat_map enc22_ok _) (ltn rfl)) rfl ?_
    intro v1
    refine VL.va (op_move rfl (ltn rfl)) rfl ?_
    refine VL.sG (o_append (es3 := l0.map enc22) 0 rfl Try.underlying33 EI23 rfl rfl rfl (.inl ⟨0, rfl⟩) (by rw [lenm, lenm]; simpa using hc) (ltn rfl)) rfl ?_
    intro v2
    refine VL.va (op_assign rfl (ltn rfl)) rfl ?_
    refine VL.done (VN.then ?_)
    refine VC.ret ?_
    exact VR.fn (rs := [.tmp 2]) [] [(v2, 23, 5, l0.map enc22)] [0] rfl (.tmp rfl .nil) ⟨_, rfl, rfl, rfl⟩ trivial rfl (by decide)

end Go.Proofs.Ytoiihpmncphplaa.PGoodsKnow
