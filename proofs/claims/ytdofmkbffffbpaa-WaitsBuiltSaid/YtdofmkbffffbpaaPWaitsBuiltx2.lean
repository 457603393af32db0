/- Written by a program of this repo: what the program's functions do, each as a Lean function, shown of the loaded code; or a statement's row over that; no condition of its own. -/
import Derived.Test.YtdofmkbffffbpaaPWaitsBuiltx1
namespace Go.Proofs.Ytdofmkbffffbpaa.PWaitsBuilt
open Go Go.RowKit Go.Proofs.YtdofmkbffffbpaaV
set_option linter.unusedVariables false
set_option linter.unusedSimpArgs false

set_option maxHeartbeats 4000000 in
set_option maxRecDepth 100000 in
theorem slices_IndexFunc_string_string.ok (k : Nat) (l0 : List ByteArray) (v0 : Value) (r1 : Int) (h : slices_IndexFunc_string_string.f k l0 = some r1) :
    VCalls Try.prog 87 [v0, (.func (.func 71) #[] #[])] [.row v0 1 (l0.map enc_str)] (fun v G own => v = .int .i64 r1 ∧ G = [] ∧ own = []) := by
  refine VCalls.intro Try.func87 rfl (len rfl) fun E hC hW hD hU => ?_
  unfold slices_IndexFunc_string_string.f at h
  refine VC.seq ?_
  refine VC.region ?_
  refine VL.va (op_assign rfl (ltn rfl)) rfl ?_
  refine VL.done ?_
  refine VN.then ?_
  refine VC.seq ?_
  refine VC.seq ?_
  refine VC.region ?_
  refine VL.va (op_move rfl (ltn rfl)) rfl ?_
  refine VL.va (op_len (m := l0.length) 0 lenm Try.underlying72 rfl rfl (ltn rfl)) rfl ?_
  refine VL.va (op_move rfl (ltn rfl)) rfl ?_
  refine VL.done ?_
  refine VN.then ?_
  refine VC.block ?_
  refine VC.loop1 (fun (i935 : Int) => ⟨19, [(0, v0), (1, (.func (.func 71) #[] #[])), (4, .int .i64 0), (7, .int .i64 (l0.length : Int)), (8, .int .i64 i935)], [.row v0 1 (l0.map enc_str)], [], []⟩) (fun (ml1 : Nat) (i935 : Int) => slices_IndexFunc_string_string.l1 k l0 ml1 i935 = some r1) k 0 [] [] h ⟨rfl, ⟨rfl, rfl, rfl, rfl, rfl, trivial⟩, ⟨⟨0, rfl⟩, trivial⟩, rfl, by decide, rfl, by decide⟩ (by intros; simp [slices_IndexFunc_string_string.l1]) ?_
  clear h
  intro ml1 ihl1 i935 h
  simp only [slices_IndexFunc_string_string.l1] at h
  refine VC.seq ?_
  refine VC.region ?_
  refine VL.letter (decide (i935 < (l0.length : Int))) fun b953 hb953 => ?_
  refine VL.va (op_cmp rfl rfl (congrArg some hb953) (ltn rfl)) rfl ?_
  refine VL.done ?_
  refine VN.then ?_
  refine VC.seq ?_
  by_cases c955 : i935 < (l0.length : Int)
  · rw [if_pos c955] at h
    obtain rfl : b953 = true := hb953.symm.trans (decide_eq_true c955)
    refine VC.cond_t rfl ?_
    refine VC.skip ?_
    refine VN.then ?_
    refine VC.seq ?_
    refine VC.block ?_
    refine VC.seq ?_
    refine VC.region ?_
    refine VL.va (op_move rfl (ltn rfl)) rfl ?_
    refine VL.va (op_assign rfl (ltn rfl)) rfl ?_
    refine VL.done ?_
    refine VN.then ?_
    refine VC.seq ?_
    refine VC.region ?_
    refine VL.va (op_move rfl (ltn rfl)) rfl ?_
    refine VL.va (op_move rfl (ltn rfl)) rfl ?_
    refine VL.va (op_move rfl (ltn rfl)) rfl ?_
    by_cases c963 : 0 ≤ i935
    · rw [if_pos c963] at h
      replace h := Option.bind_eq_some_iff.1 h
      obtain ⟨x964, hx964, h⟩ := h
      refine VL.open (m := l0.length) 0 lenm rfl (pos_get hx964) ?_
      rintro ad965 n966 rfl
      refine VL.va (op_indexAddr Try.underlying72 TI9 rfl rfl c963 (lt_get c963 hx964) rfl (ltn rfl)) rfl ?_
      refine VL.va (op_load_row (sz := 1) (o := 0) 0 i935.toNat 1 rfl rfl (get_map hx964) TI9 rfl (by decide) (ltn rfl)) rfl ?_
      replace h := Option.bind_eq_some_iff.1 h
      obtain ⟨t967, hA968, h⟩ := h
      refine VL.sC (o_call0 FO71 (goods_Right_2.ok k x964 t967 hA968) rfl rfl (ltn rfl) (All_of .nil)) rfl ?_
      rintro _ _ _ ⟨rfl, rfl, rfl⟩
      refine VL.done ?_
      refine VN.then ?_
      by_cases c969 : t967 = true
      · rw [if_pos c969] at h
        obtain rfl := c969
        refine VC.cond_t rfl ?_
        refine VC.seq ?_
        refine VC.region ?_
        refine VL.va (op_move rfl (ltn rfl)) rfl ?_
        refine VL.va (op_assign rfl (ltn rfl)) rfl ?_
        refine VL.done ?_
        refine VN.then ?_
        refine VC.ret ?_
        refine VR.block ?_
        refine VR.then ?_
        refine VR.then ?_
        refine VR.block ?_
        refine VR.then ?_
        obtain rfl := Option.some.inj h
        exact VR.fn (rs := [.tmp 4]) [] [] [] rfl (.tmp rfl .nil) ⟨rfl, rfl, rfl⟩ trivial rfl (by decide)
      · rw [if_neg c969] at h
        obtain rfl := Bool.eq_false_iff.2 c969
        refine VC.cond_f rfl ?_
        refine VC.skip ?_
        refine VN.block ?_
        refine VN.then ?_
        refine VC.region ?_
        refine VL.va (op_ari64 rfl rfl rfl (ltn rfl)) rfl ?_
        refine VL.va (op_move rfl (ltn rfl)) rfl ?_
        refine VL.done ?_
        refine VN.again [] [] (ihl1 (wrap64 (i935 + 1)) h) ⟨rfl, ⟨rfl, rfl, rfl, rfl, rfl, trivial⟩, ⟨⟨0, rfl⟩, trivial⟩, rfl, by decide, rfl, by decide⟩
    · rw [if_neg c963] at h; cases h
  · rw [if_neg c955] at h
    obtain rfl : b953 = false := hb953.symm.trans (decide_eq_false c955)
    refine VC.cond_f rfl ?_
    refine VC.exit ?_
    refine VX.then ?_
    refine VX.then ?_
    refine VX.hit ?_
    refine VN.then ?_
    refine VC.seq ?_
    refine VC.region ?_
    refine VL.va (op_assign rfl (ltn rfl)) rfl ?_
    refine VL.done ?_
    refine VN.then ?_
    refine VC.ret ?_
    obtain rfl := Option.some.inj h
    exact VR.fn (rs := [.tmp 4]) [] [] [] rfl (.tmp rfl .nil) ⟨rfl, rfl, rfl⟩ trivial rfl (by decide)
set_option maxHeartbeats 4000000 in
set_option maxRecDepth 100000 in
theorem slices_ContainsFunc_string_string.ok (k : Nat) (l0 : List ByteArray) (v0 : Value) (r1 : Bool) (h : slices_ContainsFunc_string_string.f k l0 = some r1) :
    VCalls Try.prog 70 [v0, (.func (.func 71) #[] #[])] [.row v0 1 (l0.map enc_str)] (fun v G own => v = .bool r1 ∧ G = [] ∧ own = []) := by
  refine VCalls.intro Try.func70 rfl (len rfl) fun E hC hW hD hU => ?_
  unfold slices_ContainsFunc_string_string.f at h
  refine VC.seq ?_
  refine VC.region ?_
  refine VL.va (op_assign rfl (ltn rfl)) rfl ?_
  refine VL.done ?_
  refine VN.then ?_
  refine VC.seq ?_
  refine VC.region ?_
  refine VL.va (op_move rfl (ltn rfl)) rfl ?_
  refine VL.va (op_move rfl (ltn rfl)) rfl ?_
  replace h := Option.bind_eq_some_iff.1 h
  obtain ⟨t970, hA971, h⟩ := h
  refine VL.sC (o_call0 FO87 (slices_IndexFunc_string_string.ok k l0 v0 t970 hA971) rfl rfl (ltn rfl) (All_of (.cons (List.mem_of_getElem? (i := 0) rfl) .nil))) rfl ?_
  rintro _ _ _ ⟨rfl, rfl, rfl⟩
  refine VL.letter (decide (t970 ≥ 0)) fun b972 hb972 => ?_
  refine VL.va (op_cmp rfl rfl (congrArg some hb972) (ltn rfl)) rfl ?_
  refine VL.va (op_assign rfl (ltn rfl)) rfl ?_
  refine VL.done ?_
  refine VN.then ?_
  refine VC.ret ?_
  obtain rfl := Option.some.inj h
  subst hb972
  exact VR.fn (rs := [.tmp 4]) [] [] [] rfl (.tmp rfl .nil) ⟨rfl, rfl, rfl⟩ trivial rfl (by decide)
set_option maxHeartbeats 4000000 in
set_option maxRecDepth 100000 in
theorem internal_bytealg_CompareString.ok (a0 : ByteArray) (a1 : ByteArray)  (r1 : Int) (h : internal_bytealg_CompareString.f a0 a1 = some r1) :
    VCalls Try.prog 65 [.string a0, .string a1] [] (fun v G own => v = .int .i64 r1 ∧ G = [] ∧ own = []) := by
  refine VCalls.intro Try.func65 rfl (len rfl) fun E hC hW hD hU => ?_
  unfold internal_bytealg_CompareString.f at h
  refine VC.seq ?_
  refine VC.region ?_
  refine VL.va (op_assign rfl (ltn rfl)) rfl ?_
  refine VL.done ?_
  refine VN.then ?_
  refine VC.seq ?_
  refine VC.region ?_
  refine VL.va (op_move rfl (ltn rfl)) rfl ?_
  refine VL.va (op_move rfl (ltn rfl)) rfl ?_
  refine VL.va (op_call_ext (vals := [.string a0, .string a1]) rfl rfl (ltn rfl) (fun w _ => run_cmpstring Try.func83 (by kernel_rfl) (by kernel_rfl) (by kernel_rfl) (by kernel_rfl) a0 a1 w)) rfl ?_
  refine VL.va (op_assign rfl (ltn rfl)) rfl ?_
  refine VL.done ?_
  refine VN.then ?_
  refine VC.ret ?_
  obtain rfl := Option.some.inj h
  exact VR.fn (rs := [.tmp 4]) [] [] [] rfl (.tmp rfl .nil) ⟨rfl, rfl, rfl⟩ trivial rfl (by decide)
set_option maxHeartbeats 4000000 in
set_option maxRecDepth 100000 in
theorem strings_Compare.ok (a0 : ByteArray) (a1 : ByteArray)  (r1 : Int) (h : strings_Compare.f a0 a1 = some r1) :
    VCalls Try.prog 47 [.string a0, .string a1] [] (fun v G own => v = .int .i64 r1 ∧ G = [] ∧ own = []) := by
  refine VCalls.intro Try.func47 rfl (len rfl) fun E hC hW hD hU => ?_
  unfold strings_Compare.f at h
  refine VC.seq ?_
  refine VC.region ?_
  refine VL.va (op_assign rfl (ltn rfl)) rfl ?_
  refine VL.done ?_
  refine VN.then ?_
  refine VC.seq ?_
  refine VC.region ?_
  refine VL.va (op_move rfl (ltn rfl)) rfl ?_
  refine VL.va (op_move rfl (ltn rfl)) rfl ?_
  replace h := Option.bind_eq_some_iff.1 h
  obtain ⟨t989, hA990, h⟩ := h
  refine VL.sC (o_call0 FO65 (internal_bytealg_CompareString.ok a0 a1 t989 hA990) rfl rfl (ltn rfl) (All_of .nil)) rfl ?_
  rintro _ _ _ ⟨rfl, rfl, rfl⟩
  refine VL.va (op_assign rfl (ltn rfl)) rfl ?_
  refine VL.done ?_
  refine VN.then ?_
  refine VC.ret ?_
  obtain rfl := Option.some.inj h
  exact VR.fn (rs := [.tmp 4]) [] [] [] rfl (.tmp rfl .nil) ⟨rfl, rfl, rfl⟩ trivial rfl (by decide)
set_option maxHeartbeats 4000000 in
set_option maxRecDepth 100000 in
theorem goods_rising_string.ok (k : Nat) (l0 : List ByteArray) (a1 : Int) (v0 : Value) (r1 : Bool) (h : goods_rising_string.f k l0 a1 = some r1) :
    VCalls Try.prog 73 [v0, .int .i64 a1, (.func (.func 47) #[] #[])] [.row v0 1 (l0.map enc_str)] (fun v G own => v = .bool r1 ∧ G = [] ∧ own = []) := by
  refine VCalls.intro Try.func73 rfl (len rfl) fun E hC hW hD hU => ?_
  unfold goods_rising_string.f at h
  refine VC.seq ?_
  refine VC.region ?_
  refine VL.va (op_assign rfl (ltn rfl)) rfl ?_
  refine VL.done ?_
  refine VN.then ?_
  refine VC.seq ?_
  refine VC.seq ?_
  refine VC.region ?_
  refine VL.va (op_assign rfl (ltn rfl)) rfl ?_
  refine VL.done ?_
  refine VN.then ?_
  refine VC.block ?_
  refine VC.loop1 (fun (i1061 : Int) => ⟨30, [(0, v0), (1, .int .i64 a1), (2, (.func (.func 47) #[] #[])), (6, .bool false), (7, .int .i64 i1061)], [.row v0 1 (l0.map enc_str)], [], []⟩) (fun (ml1 : Nat) (i1061 : Int) => goods_rising_string.l1 k a1 l0 ml1 i1061 = some r1) k 1 [] [] h ⟨rfl, ⟨rfl, rfl, rfl, rfl, rfl, trivial⟩, ⟨⟨0, rfl⟩, trivial⟩, rfl, by decide, rfl, by decide⟩ (by intros; simp [goods_rising_string.l1]) ?_
  clear h
  intro ml1 ihl1 i1061 h
  simp only [goods_rising_string.l1] at h
  refine VC.seq ?_
  refine VC.seq ?_
  refine VC.region ?_
  refine VL.va (op_move rfl (ltn rfl)) rfl ?_
  refine VL.va (op_move rfl (ltn rfl)) rfl ?_
  refine VL.va (op_len (m := l0.length) 0 lenm Try.underlying72 rfl rfl (ltn rfl)) rfl ?_
  refine VL.letter (decide (i1061 < (l0.length : Int))) fun b1085 hb1085 => ?_
  refine VL.va (op_cmp rfl rfl (congrArg some hb1085) (ltn rfl)) rfl ?_
  refine VL.done ?_
  refine VN.then ?_
  by_cases c1086 : i1061 < (l0.length : Int)
  · rw [if_pos c1086] at h
    obtain rfl : b1085 = true := hb1085.symm.trans (decide_eq_true c1086)
    refine VC.cond_t rfl ?_
    refine VC.skip ?_
    refine VN.then ?_
    refine VC.seq ?_
    refine VC.block ?_
    by_cases c1095 : 0 ≤ wrap64 (i1061 - 1)
    · rw [if_pos c1095] at h
      replace h := Option.bind_eq_some_iff.1 h
      obtain ⟨x1096, hx1096, h⟩ := h
      by_cases c1097 : 0 ≤ i1061
      · rw [if_pos c1097] at h
        replace h := Option.bind_eq_some_iff.1 h
        obtain ⟨x1098, hx1098, h⟩ := h
        replace h := Option.bind_eq_some_iff.1 h
        obtain ⟨t1099, hA1100, h⟩ := h
        refine VC.letter (decide (t1099 ≥ 0)) fun b1101 hb1101 => ?_
        refine VC.open (m := l0.length) 0 lenm rfl (pos_get hx1096) ?_
        rintro ad986 n987 rfl
        refine VC.join0 (⟨30, [(0, (.slice (some ad986) l0.length n987)), (1, .int .i64 a1), (2, (.func (.func 47) #[] #[])), (6, .bool false), (7, .int .i64 i1061), (8, .int .i64 i1061), (9, (.slice (some ad986) l0.length n987)), (10, .int .i64 (l0.length : Int)), (11, .bool true), (14, (.func (.func 47) #[] #[])), (15, (.slice (some ad986) l0.length n987)), (16, .int .i64 i1061), (17, .int .i64 (wrap64 (i1061 - 1))), (19, .string x1096), (20, (.slice (some ad986) l0.length n987)), (21, .int .i64 i1061), (23, .string x1098), (24, .int .i64 t1099), (25, .bool b1101)], [.row (.slice (some ad986) l0.length n987) 1 (l0.map enc_str)], [], []⟩) (True) ?_ ?_
        · refine VC.draw ⟨0, [], [.row (.slice (some ad986) l0.length n987) 1 (l0.map enc_str)], [], []⟩ (by kernel_rfl) rfl (by kernel_rfl) (n := 12) (listed := LB 12 0) ?_
          refine VA.va (i := 0) (listed' := LB 12 1) rfl (op_move rfl (ltn rfl)) rfl (by kernel_rfl) (by kernel_rfl) (by kernel_rfl) (by kernel_rfl) ⟨⟨⟨0, rfl⟩, trivial⟩, trivial, trivial⟩ (fun _ _ _ h => h) ?_
          refine VA.va (i := 1) (listed' := LB 12 3) rfl (op_move rfl (ltn rfl)) rfl (by kernel_rfl) (by kernel_rfl) (by kernel_rfl) (by kernel_rfl) ⟨⟨⟨0, rfl⟩, trivial⟩, trivial, trivial⟩ (fun _ _ _ h => h) ?_
          refine VA.va (i := 2) (listed' := LB 12 7) rfl (op_move rfl (ltn rfl)) rfl (by kernel_rfl) (by kernel_rfl) (by kernel_rfl) (by kernel_rfl) ⟨⟨⟨0, rfl⟩, trivial⟩, trivial, trivial⟩ (fun _ _ _ h => h) ?_
          refine VA.va (i := 3) (listed' := LB 12 15) rfl (op_ari64 rfl rfl rfl (ltn rfl)) rfl (by kernel_rfl) (by kernel_rfl) (by kernel_rfl) (by kernel_rfl) ⟨⟨⟨0, rfl⟩, trivial⟩, trivial, trivial⟩ (fun _ _ _ h => h) ?_
          refine VA.va (i := 4) (listed' := LB 12 31) rfl (op_indexAddr Try.underlying72 TI9 rfl rfl c1095 (lt_get c1095 hx1096) rfl (ltn rfl)) rfl (by kernel_rfl) (by kernel_rfl) (by kernel_rfl) (by kernel_rfl) ⟨⟨⟨0, rfl⟩, trivial⟩, trivial, trivial⟩ (fun _ _ _ h => h) ?_
          refine VA.va (i := 5) (listed' := LB 12 63) rfl (op_load_row (sz := 1) (o := 0) 0 (wrap64 (i1061 - 1)).toNat 1 rfl rfl (get_map hx1096) TI9 rfl (by decide) (ltn rfl)) rfl (by kernel_rfl) (by kernel_rfl) (by kernel_rfl) (by kernel_rfl) ⟨⟨⟨0, rfl⟩, trivial⟩, trivial, trivial⟩ (fun _ _ _ h => h) ?_
          refine VA.va (i := 6) (listed' := LB 12 127) rfl (op_move rfl (ltn rfl)) rfl (by kernel_rfl) (by kernel_rfl) (by kernel_rfl) (by kernel_rfl) ⟨⟨⟨0, rfl⟩, trivial⟩, trivial, trivial⟩ (fun _ _ _ h => h) ?_
          refine VA.va (i := 7) (listed' := LB 12 255) rfl (op_move rfl (ltn rfl)) rfl (by kernel_rfl) (by kernel_rfl) (by kernel_rfl) (by kernel_rfl) ⟨⟨⟨0, rfl⟩, trivial⟩, trivial, trivial⟩ (fun _ _ _ h => h) ?_
          refine VA.va (i := 8) (listed' := LB 12 511) rfl (op_indexAddr Try.underlying72 TI9 rfl rfl c1097 (lt_get c1097 hx1098) rfl (ltn rfl)) rfl (by kernel_rfl) (by kernel_rfl) (by kernel_rfl) (by kernel_rfl) ⟨⟨⟨0, rfl⟩, trivial⟩, trivial, trivial⟩ (fun _ _ _ h => h) ?_
          refine VA.va (i := 9) (listed' := LB 12 1023) rfl (op_load_row (sz := 1) (o := 0) 0 i1061.toNat 1 rfl rfl (get_map hx1098) TI9 rfl (by decide) (ltn rfl)) rfl (by kernel_rfl) (by kernel_rfl) (by kernel_rfl) (by kernel_rfl) ⟨⟨⟨0, rfl⟩, trivial⟩, trivial, trivial⟩ (fun _ _ _ h => h) ?_
          refine VA.oneC (i := 10) (listed' := LB 12 2047) (by kernel_rfl) rfl (o_call0 FO47 (strings_Compare.ok x1096 x1098 t1099 hA1100) rfl rfl (ltn rfl) (All_of .nil)) rfl (by kernel_rfl) ?_
          rintro _ _ _ ⟨rfl, rfl, rfl⟩
          refine ⟨⟨⟨⟨0, rfl⟩, trivial⟩, trivial, trivial⟩, ?_⟩
          refine VA.va (i := 11) (listed' := LB 12 4095) rfl (op_cmp rfl rfl (congrArg some hb1101) (ltn rfl)) rfl (by kernel_rfl) (by kernel_rfl) (by kernel_rfl) (by kernel_rfl) ⟨⟨⟨0, rfl⟩, trivial⟩, trivial, trivial⟩ (fun _ _ _ h => h) ?_
          refine VA.done (by kernel_rfl) ?_
          exact VN.meet0  [] [] trivial ⟨rfl, ⟨rfl, rfl, rfl, rfl, rfl, rfl, rfl, rfl, rfl, rfl, rfl, rfl, rfl, rfl, rfl, rfl, rfl, rfl, rfl, trivial⟩, ⟨⟨0, rfl⟩, trivial⟩, rfl, by decide, rfl, by decide⟩
        intro _
        by_cases c1102 : t1099 ≥ 0
        · rw [if_pos c1102] at h
          obtain rfl : b1101 = true := hb1101.symm.trans (decide_eq_true c1102)
          refine VC.cond_t rfl ?_
          refine VC.seq ?_
          refine VC.region ?_
          refine VL.va (op_assign rfl (ltn rfl)) rfl ?_
          refine VL.done ?_
          refine VN.then ?_
          refine VC.ret ?_
          refine VR.block ?_
          refine VR.then ?_
          refine VR.then ?_
          refine VR.block ?_
          refine VR.then ?_
          obtain rfl := Option.some.inj h
          exact VR.fn (rs := [.tmp 6]) [] [] [] rfl (.tmp rfl .nil) ⟨rfl, rfl, rfl⟩ trivial rfl (by decide)
        · rw [if_neg c1102] at h
          obtain rfl : b1101 = false := hb1101.symm.trans (decide_eq_false c1102)
          refine VC.cond_f rfl ?_
          refine VC.skip ?_
          refine VN.block ?_
          refine VN.then ?_
          refine VC.region ?_
          refine VL.va (op_move rfl (ltn rfl)) rfl ?_
          refine VL.va (op_ari64 rfl rfl rfl (ltn rfl)) rfl ?_
          refine VL.va (op_assign rfl (ltn rfl)) rfl ?_
          refine VL.done ?_
          refine VN.again [] [] (ihl1 (wrap64 (i1061 + 1)) h) ⟨rfl, ⟨rfl, rfl, rfl, rfl, rfl, trivial⟩, ⟨⟨0, rfl⟩, trivial⟩, rfl, by decide, rfl, by decide⟩
      · rw [if_neg c1097] at h; cases h
    · rw [if_neg c1095] at h; cases h
  · rw [if_neg c1086] at h
    obtain rfl : b1085 = false := hb1085.symm.trans (decide_eq_false c1086)
    refine VC.cond_f rfl ?_
    refine VC.exit ?_
    refine VX.then ?_
    refine VX.then ?_
    refine VX.hit ?_
    refine VN.then ?_
    refine VC.seq ?_
    refine VC.region ?_
    refine VL.va (op_move rfl (ltn rfl)) rfl ?_
    refine VL.va (op_len (m := l0.length) 0 lenm Try.underlying72 rfl rfl (ltn rfl)) rfl ?_
    refine VL.va (op_move rfl (ltn rfl)) rfl ?_
    refine VL.letter (decide ((l0.length : Int) ≤ a1)) fun b1103 hb1103 => ?_
    refine VL.va (op_cmp rfl rfl (congrArg some hb1103) (ltn rfl)) rfl ?_
    refine VL.va (op_assign rfl (ltn rfl)) rfl ?_
    refine VL.done ?_
    refine VN.then ?_
    refine VC.ret ?_
    obtain rfl := Option.some.inj h
    subst hb1103
    exact VR.fn (rs := [.tmp 6]) [] [] [] rfl (.tmp rfl .nil) ⟨rfl, rfl, rfl⟩ trivial rfl (by decide)
set_option maxHeartbeats 4000000 in
set_option maxRecDepth 100000 in
theorem cmp_isNaN_int.ok (a0 : Int)  (r1 : Bool) (h : cmp_isNaN_int.f a0 = some r1) :
    VCalls Try.prog 77 [.int .i64 a0] [] (fun v G own => v = .bool r1 ∧ G = [] ∧ own = []) := by
  refine VCalls.intro Try.func77 rfl (len rfl) fun E hC hW hD hU => ?_
  unfold cmp_isNaN_int.f at h
  refine VC.seq ?_
  refine VC.region ?_
  refine VL.va (op_assign rfl (ltn rfl)) rfl ?_
  refine VL.done ?_
  refine VN.then ?_
  refine VC.seq ?_
  refine VC.region ?_
  refine VL.va (op_move rfl (ltn rfl)) rfl ?_
  refine VL.va (op_move rfl (ltn rfl)) rfl ?_
  refine VL.letter ((a0 != a0)) fun b1121 hb1121 => ?_
  refine VL.va (op_cmp rfl rfl (congrArg some hb1121) (ltn rfl)) rfl ?_
  refine VL.va (op_assign rfl (ltn rfl)) rfl ?_
  refine VL.done ?_
  refine VN.then ?_
  refine VC.ret ?_
  obtain rfl := Option.some.inj h
  subst hb1121
  exact VR.fn (rs := [.tmp 2]) [] [] [] rfl (.tmp rfl .nil) ⟨rfl, rfl, rfl⟩ trivial rfl (by decide)
set_option maxHeartbeats 4000000 in
set_option maxRecDepth 100000 in
theorem cmp_Compare_int.ok (a0 : Int) (a1 : Int)  (r1 : Int) (h : cmp_Compare_int.f a0 a1 = some r1) :
    VCalls Try.prog 54 [.int .i64 a0, .int .i64 a1] [] (fun v G own => v = .int .i64 r1 ∧ G = [] ∧ own = []) := by
  refine VCalls.intro Try.func54 rfl (len rfl) fun E hC hW hD hU => ?_
  unfold cmp_Compare_int.f at h
  refine VC.seq ?_
  refine VC.region ?_
  refine VL.va (op_assign rfl (ltn rfl)) rfl ?_
  refine VL.done ?_
  refine VN.then ?_
  refine VC.seq ?_
  refine VC.region ?_
  refine VL.va (op_move rfl (ltn rfl)) rfl ?_
  replace h := Option.bind_eq_some_iff.1 h
  obtain ⟨t1122, hA1123, h⟩ := h
  refine VL.sC (o_call0 FO77 (cmp_isNaN_int.ok a0 t1122 hA1123) rfl rfl (ltn rfl) (All_of .nil)) rfl ?_
  rintro _ _ _ ⟨rfl, rfl, rfl⟩
  refine VL.va (op_assign rfl (ltn rfl)) rfl ?_
  refine VL.done ?_
  refine VN.then ?_
  refine VC.seq ?_
  refine VC.region ?_
  refine VL.va (op_move rfl (ltn rfl)) rfl ?_
  replace h := Option.bind_eq_some_iff.1 h
  obtain ⟨t1124, hA1125, h⟩ := h
  refine VL.sC (o_call0 FO77 (cmp_isNaN_int.ok a1 t1124 hA1125) rfl rfl (ltn rfl) (All_of .nil)) rfl ?_
  rintro _ _ _ ⟨rfl, rfl, rfl⟩
  refine VL.va (op_assign rfl (ltn rfl)) rfl ?_
  refine VL.done ?_
  refine VN.then ?_
  refine VC.seq ?_
  refine VC.seq ?_
  refine VC.region ?_
  refine VL.va (op_move rfl (ltn rfl)) rfl ?_
  refine VL.done ?_
  refine VN.then ?_
  by_cases c1129 : t1122 = true
  · rw [if_pos c1129] at h
    obtain rfl := c1129
    refine VC.cond_t rfl ?_
    refine VC.seq ?_
    refine VC.seq ?_
    refine VC.region ?_
    refine VL.va (op_move rfl (ltn rfl)) rfl ?_
    refine VL.done ?_
    refine VN.then ?_
    by_cases c1131 : t1124 = true
    · rw [if_pos c1131] at h
      obtain rfl := c1131
      refine VC.cond_t rfl ?_
      refine VC.seq ?_
      refine VC.region ?_
      refine VL.va (op_assign rfl (ltn rfl)) rfl ?_
      refine VL.done ?_
      refine VN.then ?_
      refine VC.ret ?_
      refine VR.then ?_
      refine VR.then ?_
      obtain rfl := Option.some.inj h
      exact VR.fn (rs := [.tmp 4]) [] [] [] rfl (.tmp rfl .nil) ⟨rfl, rfl, rfl⟩ trivial rfl (by decide)
    · rw [if_neg c1131] at h
      obtain rfl := Bool.eq_false_iff.2 c1131
      refine VC.cond_f rfl ?_
      refine VC.skip ?_
      refine VN.then ?_
      refine VC.seq ?_
      refine VC.region ?_
      refine VL.va (op_assign rfl (ltn rfl)) rfl ?_
      refine VL.done ?_
      refine VN.then ?_
      refine VC.ret ?_
      refine VR.then ?_
      obtain rfl := Option.some.inj h
      exact VR.fn (rs := [.tmp 4]) [] [] [] rfl (.tmp rfl .nil) ⟨rfl, rfl, rfl⟩ trivial rfl (by decide)
  · rw [if_neg c1129] at h
    obtain rfl := Bool.eq_false_iff.2 c1129
    refine VC.cond_f rfl ?_
    refine VC.skip ?_
    refine VN.then ?_
    refine VC.seq ?_
    refine VC.seq ?_
    refine VC.region ?_
    refine VL.va (op_move rfl (ltn rfl)) rfl ?_
    refine VL.done ?_
    refine VN.then ?_
    by_cases c1133 : t1124 = true
    · rw [if_pos c1133] at h
      obtain rfl := c1133
      refine VC.cond_t rfl ?_
      refine VC.seq ?_
      refine VC.region ?_
      refine VL.va (op_assign rfl (ltn rfl)) rfl ?_
      refine VL.done ?_
      refine VN.then ?_
      refine VC.ret ?_
      refine VR.then ?_
      obtain rfl := Option.some.inj h
      exact VR.fn (rs := [.tmp 4]) [] [] [] rfl (.tmp rfl .nil) ⟨rfl, rfl, rfl⟩ trivial rfl (by decide)
    · rw [if_neg c1133] at h
      obtain rfl := Bool.eq_false_iff.2 c1133
      refine VC.cond_f rfl ?_
      refine VC.skip ?_
      refine VN.then ?_
      refine VC.seq ?_
      refine VC.seq ?_
      refine VC.region ?_
      refine VL.va (op_move rfl (ltn rfl)) rfl ?_
      refine VL.va (op_move rfl (ltn rfl)) rfl ?_
      refine VL.letter (decide (a0 < a1)) fun b1136 hb1136 => ?_
      refine VL.va (op_cmp rfl rfl (congrArg some hb1136) (ltn rfl)) rfl ?_
      refine VL.done ?_
      refine VN.then ?_
      by_cases c1137 : a0 < a1
      · rw [if_pos c1137] at h
        obtain rfl : b1136 = true := hb1136.symm.trans (decide_eq_true c1137)
        refine VC.cond_t rfl ?_
        refine VC.seq ?_
        refine VC.region ?_
        refine VL.va (op_assign rfl (ltn rfl)) rfl ?_
        refine VL.done ?_
        refine VN.then ?_
        refine VC.ret ?_
        refine VR.then ?_
        obtain rfl := Option.some.inj h
        exact VR.fn (rs := [.tmp 4]) [] [] [] rfl (.tmp rfl .nil) ⟨rfl, rfl, rfl⟩ trivial rfl (by decide)
      · rw [if_neg c1137] at h
        obtain rfl : b1136 = false := hb1136.symm.trans (decide_eq_false c1137)
        refine VC.cond_f rfl ?_
        refine VC.skip ?_
        refine VN.then ?_
        refine VC.seq ?_
        refine VC.seq ?_
        refine VC.region ?_
        refine VL.va (op_move rfl (ltn rfl)) rfl ?_
        refine VL.va (op_move rfl (ltn rfl)) rfl ?_
        refine VL.letter (decide (a0 > a1)) fun b1140 hb1140 => ?_
        refine VL.va (op_cmp rfl rfl (congrArg some hb1140) (ltn rfl)) rfl ?_
        refine VL.done ?_
        refine VN.then ?_
        by_cases c1141 : a0 > a1
        · rw [if_pos c1141] at h
          obtain rfl : b1140 = true := hb1140.symm.trans (decide_eq_true c1141)
          refine VC.cond_t rfl ?_
          refine VC.seq ?_
          refine VC.region ?_
          refine VL.va (op_assign rfl (ltn rfl)) rfl ?_
          refine VL.done ?_
          refine VN.then ?_
          refine VC.ret ?_
          refine VR.then ?_
          obtain rfl := Option.some.inj h
          exact VR.fn (rs := [.tmp 4]) [] [] [] rfl (.tmp rfl .nil) ⟨rfl, rfl, rfl⟩ trivial rfl (by decide)
        · rw [if_neg c1141] at h
          obtain rfl : b1140 = false := hb1140.symm.trans (decide_eq_false c1141)
          refine VC.cond_f rfl ?_
          refine VC.skip ?_
          refine VN.then ?_
          refine VC.seq ?_
          refine VC.region ?_
          refine VL.va (op_assign rfl (ltn rfl)) rfl ?_
          refine VL.done ?_
          refine VN.then ?_
          refine VC.ret ?_
          obtain rfl := Option.some.inj h
          exact VR.fn (rs := [.tmp 4]) [] [] [] rfl (.tmp rfl .nil) ⟨rfl, rfl, rfl⟩ trivial rfl (by decide)
set_option maxHeartbeats 4000000 in
set_option maxRecDepth 100000 in
theorem cmp_Or_int.ok (k : Nat) (l0 : List Int) (v0 : Value) (r1 : Int) (h : cmp_Or_int.f k l0 = some r1) :
    VCalls Try.prog 46 [v0] [.row v0 1 (l0.map enc_inti64)] (fun v G own => v = .int .i64 r1 ∧ G = [] ∧ own = []) := by
  refine VCalls.intro Try.func46 rfl (len rfl) fun E hC hW hD hU => ?_
  unfold cmp_Or_int.f at h
  refine VC.seq ?_
  refine VC.region ?_
  refine VL.va (op_assign rfl (ltn rfl)) rfl ?_
  refine VL.done ?_
  refine VN.then ?_
  refine VC.seq ?_
  refine VC.region ?_
  refine VL.va (op_assign rfl (ltn rfl)) rfl ?_
  refine VL.done ?_
  refine VN.then ?_
  refine VC.seq ?_
  refine VC.seq ?_
  refine VC.region ?_
  refine VL.va (op_move rfl (ltn rfl)) rfl ?_
  refine VL.va (op_len (m := l0.length) 0 lenm Try.underlying92 rfl rfl (ltn rfl)) rfl ?_
  refine VL.va (op_move rfl (ltn rfl)) rfl ?_
  refine VL.done ?_
  refine VN.then ?_
  refine VC.block ?_
  refine VC.loop1 (fun (i1204 : Int) => ⟨18, [(2, .int .i64 0), (3, .int .i64 0), (6, v0), (7, .int .i64 (l0.length : Int)), (8, .int .i64 i1204)], [.row v0 1 (l0.map enc_inti64)], [], []⟩) (fun (ml1 : Nat) (i1204 : Int) => cmp_Or_int.l1 k l0 ml1 i1204 = some r1) k 0 [] [] h ⟨rfl, ⟨rfl, rfl, rfl, rfl, rfl, trivial⟩, ⟨⟨0, rfl⟩, trivial⟩, rfl, by decide, rfl, by decide⟩ (by intros; simp [cmp_Or_int.l1]) ?_
  clear h
  intro ml1 ihl1 i1204 h
  simp only [cmp_Or_int.l1] at h
  refine VC.seq ?_
  refine VC.region ?_
  refine VL.letter (decide (i1204 < (l0.length : Int))) fun b1220 hb1220 => ?_
  refine VL.va (op_cmp rfl rfl (congrArg some hb1220) (ltn rfl)) rfl ?_
  refine VL.done ?_
  refine VN.then ?_
  refine VC.seq ?_
  by_cases c1222 : i1204 < (l0.length : Int)
  · rw [if_pos c1222] at h
    obtain rfl : b1220 = true := hb1220.symm.trans (decide_eq_true c1222)
    refine VC.cond_t rfl ?_
    refine VC.skip ?_
    refine VN.then ?_
    refine VC.seq ?_
    refine VC.block ?_
    refine VC.seq ?_
    refine VC.region ?_
    by_cases c1229 : 0 ≤ i1204
    · rw [if_pos c1229] at h
      replace h := Option.bind_eq_some_iff.1 h
      obtain ⟨x1230, hx1230, h⟩ := h
      refine VL.open (m := l0.length) 0 lenm rfl (pos_get hx1230) ?_
      rintro ad1231 n1232 rfl
      refine VL.va (op_indexAddr Try.underlying92 TI3 rfl rfl c1229 (lt_get c1229 hx1230) rfl (ltn rfl)) rfl ?_
      refine VL.va (op_load_row (sz := 1) (o := 0) 0 i1204.toNat 1 rfl rfl (get_map hx1230) TI3 rfl (by decide) (ltn rfl)) rfl ?_
      refine VL.va (op_assign rfl (ltn rfl)) rfl ?_
      refine VL.done ?_
      refine VN.then ?_
      refine VC.seq ?_
      refine VC.region ?_
      refine VL.va (op_move rfl (ltn rfl)) rfl ?_
      refine VL.va (op_move rfl (ltn rfl)) rfl ?_
      refine VL.letter ((x1230 != 0)) fun b1233 hb1233 => ?_
      refine VL.va (op_cmp rfl rfl (congrArg some hb1233) (ltn rfl)) rfl ?_
      refine VL.done ?_
      refine VN.then ?_
      by_cases c1234 : x1230 = 0
      · rw [if_pos c1234] at h
        obtain rfl : b1233 = false := hb1233.symm.trans (bne_eq_false_iff_eq.2 c1234)
        refine VC.cond_f rfl ?_
        refine VC.skip ?_
        refine VN.block ?_
        refine VN.then ?_
        refine VC.region ?_
        refine VL.va (op_ari64 rfl rfl rfl (ltn rfl)) rfl ?_
        refine VL.va (op_move rfl (ltn rfl)) rfl ?_
        refine VL.done ?_
        refine VN.again [] [] (ihl1 (wrap64 (i1204 + 1)) h) ⟨rfl, ⟨rfl, rfl, rfl, rfl, rfl, trivial⟩, ⟨⟨0, rfl⟩, trivial⟩, rfl, by decide, rfl, by decide⟩
      · rw [if_neg c1234] at h
        obtain rfl : b1233 = true := hb1233.symm.trans (bne_iff_ne.2 c1234)
        refine VC.cond_t rfl ?_
        refine VC.seq ?_
        refine VC.region ?_
        refine VL.va (op_move rfl (ltn rfl)) rfl ?_
        refine VL.va (op_assign rfl (ltn rfl)) rfl ?_
        refine VL.done ?_
        refine VN.then ?_
        refine VC.ret ?_
        refine VR.block ?_
        refine VR.then ?_
        refine VR.then ?_
        refine VR.block ?_
        refine VR.then ?_
        obtain rfl := Option.some.inj h
        exact VR.fn (rs := [.tmp 2]) [] [] [] rfl (.tmp rfl .nil) ⟨rfl, rfl, rfl⟩ trivial rfl (by decide)
    · rw [if_neg c1229] at h; cases h
  · rw [if_neg c1222] at h
    obtain rfl : b1220 = false := hb1220.symm.trans (decide_eq_false c1222)
    refine VC.cond_f rfl ?_
    refine VC.exit ?_
    refine VX.then ?_
    refine VX.then ?_
    refine VX.hit ?_
    refine VN.then ?_
    refine VC.seq ?_
    refine VC.region ?_
    refine VL.va (op_move rfl (ltn rfl)) rfl ?_
    refine VL.va (op_assign rfl (ltn rfl)) rfl ?_
    refine VL.done ?_
    refine VN.then ?_
    refine VC.ret ?_
    obtain rfl := Option.some.inj h
    exact VR.fn (rs := [.tmp 2]) [] [] [] rfl (.tmp rfl .nil) ⟨rfl, rfl, rfl⟩ trivial rfl (by decide)
set_option maxHeartbeats 4000000 in
set_option maxRecDepth 100000 in
theorem goods_compare.ok (k : Nat) (a0_0 : ByteArray) (a0_1 : ByteArray) (a0_2 : Int) (a0_3 : Int) (a0_4 : Int) (a1_0 : ByteArray) (a1_1 : ByteArray) (a1_2 : Int) (a1_3 : Int) (a1_4 : Int)  (r1 : Int) (h : goods_compare.f k a0_0 a0_1 a0_2 a0_3 a0_4 a1_0 a1_1 a1_2 a1_3 a1_4 = some r1) :
    VCalls Try.prog 75 [.agg #[.string a0_0, .string a0_1, .int .i64 a0_2, .int .i64 a0_3, .int .i64 a0_4], .agg #[.string a1_0, .string a1_1, .int .i64 a1_2, .int .i64 a1_3, .int .i64 a1_4]] [] (fun v G own => v = .int .i64 r1 ∧ G = [] ∧ own = []) := by
  refine VCalls.intro Try.func75 rfl (len rfl) fun E hC hW hD hU => ?_
  unfold goods_compare.f at h
  refine VC.seq ?_
  refine VC.region ?_
  refine VL.sG (o_box rfl (.agg (.of rfl)) (ltn rfl)) rfl ?_
  intro g1117
  refine VL.sG (o_box rfl (.agg (.of rfl)) (ltn rfl)) rfl ?_
  intro g1118
  refine VL.va (op_assign rfl (ltn rfl)) rfl ?_
  refine VL.done ?_
  refine VN.then ?_
  replace h := Option.bind_eq_some_iff.1 h
  obtain ⟨t1119, hA1120, h⟩ := h
  replace h := Option.bind_eq_some_iff.1 h
  obtain ⟨t1142, hA1143, h⟩ := h
  replace h := Option.bind_eq_some_iff.1 h
  obtain ⟨t1235, hA1236, h⟩ := h
  refine VC.join0 (⟨17, [(4, .int .i64 t1235)], [], [], []⟩) (True) ?_ ?_
  · refine VC.draw ⟨0, [], [], [(g1118, 94, [.string a1_0, .string a1_1, .int .i64 a1_2, .int .i64 a1_3, .int .i64 a1_4]), (g1117, 94, [.string a0_0, .string a0_1, .int .i64 a0_2, .int .i64 a0_3, .int .i64 a0_4])], []⟩ (by kernel_rfl) rfl (by kernel_rfl) (n := 13) (listed := LB 13 0) ?_
    refine VA.va (i := 0) (listed' := LB 13 1) rfl (op_fieldAddr FI94_0 rfl (add_at _ _ _) (ltn rfl)) rfl (by kernel_rfl) (by kernel_rfl) (by kernel_rfl) (by kernel_rfl) ⟨trivial, ⟨⟨0, rfl⟩, ⟨1, rfl⟩, trivial⟩, trivial⟩ (fun _ _ _ h => h) ?_
    refine VA.va (i := 1) (listed' := LB 13 3) rfl (op_load 1 1 rfl rfl TI9 rfl (by decide) (ltn rfl)) rfl (by kernel_rfl) (by kernel_rfl) (by kernel_rfl) (by kernel_rfl) ⟨trivial, ⟨⟨0, rfl⟩, ⟨1, rfl⟩, trivial⟩, trivial⟩ (fun _ _ _ h => h) ?_
    refine VA.va (i := 2) (listed' := LB 13 7) rfl (op_fieldAddr FI94_0 rfl (add_at _ _ _) (ltn rfl)) rfl (by kernel_rfl) (by kernel_rfl) (by kernel_rfl) (by kernel_rfl) ⟨trivial, ⟨⟨0, rfl⟩, ⟨1, rfl⟩, trivial⟩, trivial⟩ (fun _ _ _ h => h) ?_
    refine VA.va (i := 3) (listed' := LB 13 15) rfl (op_load 0 1 rfl rfl TI9 rfl (by decide) (ltn rfl)) rfl (by kernel_rfl) (by kernel_rfl) (by kernel_rfl) (by kernel_rfl) ⟨trivial, ⟨⟨0, rfl⟩, ⟨1, rfl⟩, trivial⟩, trivial⟩ (fun _ _ _ h => h) ?_
    refine VA.va (i := 5) (listed' := LB 13 47) rfl (op_fieldAddr FI94_2 rfl (add_at _ _ _) (ltn rfl)) rfl (by kernel_rfl) (by kernel_rfl) (by kernel_rfl) (by kernel_rfl) ⟨trivial, ⟨⟨0, rfl⟩, ⟨1, rfl⟩, trivial⟩, trivial⟩ (fun _ _ _ h => h) ?_
    refine VA.va (i := 6) (listed' := LB 13 111) rfl (op_load 1 1 rfl rfl TI3 rfl (by decide) (ltn rfl)) rfl (by kernel_rfl) (by kernel_rfl) (by kernel_rfl) (by kernel_rfl) ⟨trivial, ⟨⟨0, rfl⟩, ⟨1, rfl⟩, trivial⟩, trivial⟩ (fun _ _ _ h => h) ?_
    refine VA.va (i := 7) (listed' := LB 13 239) rfl (op_fieldAddr FI94_2 rfl (add_at _ _ _) (ltn rfl)) rfl (by kernel_rfl) (by kernel_rfl) (by kernel_rfl) (by kernel_rfl) ⟨trivial, ⟨⟨0, rfl⟩, ⟨1, rfl⟩, trivial⟩, trivial⟩ (fun _ _ _ h => h) ?_
    refine VA.va (i := 8) (listed' := LB 13 495) rfl (op_load 0 1 rfl rfl TI3 rfl (by decide) (ltn rfl)) rfl (by kernel_rfl) (by kernel_rfl) (by kernel_rfl) (by kernel_rfl) ⟨trivial, ⟨⟨0, rfl⟩, ⟨1, rfl⟩, trivial⟩, trivial⟩ (fun _ _ _ h => h) ?_
    refine VA.oneC (i := 4) (listed' := LB 13 511) (by kernel_rfl) rfl (o_call0 FO47 (strings_Compare.ok a0_0 a1_0 t1119 hA1120) rfl rfl (ltn rfl) (All_of .nil)) rfl (by kernel_rfl) ?_
    rintro _ _ _ ⟨rfl, rfl, rfl⟩
    refine ⟨⟨trivial, ⟨⟨0, rfl⟩, ⟨1, rfl⟩, trivial⟩, trivial⟩, ?_⟩
    refine VA.oneC (i := 9) (listed' := LB 13 1023) (by kernel_rfl) rfl (o_call0 FO54 (cmp_Compare_int.ok a0_2 a1_2 t1142 hA1143) rfl rfl (ltn rfl) (All_of .nil)) rfl (by kernel_rfl) ?_
    rintro _ _ _ ⟨rfl, rfl, rfl⟩
    refine ⟨⟨trivial, ⟨⟨0, rfl⟩, ⟨1, rfl⟩, trivial⟩, trivial⟩, ?_⟩
    refine VA.oneG (i := 10) (listed' := LB 13 2047) (by kernel_rfl) rfl (o_buildSlice (vals := [(0, .int .i64 t1119), (1, .int .i64 t1142)]) (cells := #[.int .i64 t1119, .int .i64 t1142]) (es := List.map enc_inti64 ([t1119, t1142] : List Int)) Try.underlying92 TI3 Z3 rfl (by decide) (by decide) (by kernel_rfl) (by kernel_rfl) rfl (flat_map enc_inti64_ok _) (ltn rfl)) rfl (by kernel_rfl) (fun _ => ⟨trivial, ⟨⟨0, rfl⟩, ⟨1, rfl⟩, trivial⟩, trivial⟩) ?_
    intro v1145
    refine VA.oneC (i := 11) (listed' := LB 13 4095) (by kernel_rfl) rfl (o_call_b0 FO46 (cmp_Or_int.ok k ([t1119, t1142] : List Int) v1145 t1235 hA1236) rfl rfl (ltn rfl) (All_of (.cons (.inr (.inl ⟨_, List.mem_of_getElem? (i := 0) rfl, rfl⟩)) .nil)) (by rintro _ _ _ ⟨rfl, rfl, rfl⟩; rfl)) rfl (by kernel_rfl) ?_
    rintro _ _ _ ⟨rfl, rfl, rfl⟩
    refine ⟨⟨trivial, ⟨⟨0, rfl⟩, ⟨1, rfl⟩, trivial⟩, trivial⟩, ?_⟩
    refine VA.va (i := 12) (listed' := LB 13 8191) rfl (op_assign rfl (ltn rfl)) rfl (by kernel_rfl) (by kernel_rfl) (by kernel_rfl) (by kernel_rfl) ⟨trivial, ⟨⟨0, rfl⟩, ⟨1, rfl⟩, trivial⟩, trivial⟩ (fun _ _ _ h => h) ?_
    refine VA.done (by kernel_rfl) ?_
    exact VN.meet0  [] [] trivial ⟨rfl, ⟨rfl, trivial⟩, trivial, rfl, by decide, rfl, by decide⟩
  intro _
  refine VC.ret ?_
  obtain rfl := Option.some.inj h
  exact VR.fn (rs := [.tmp 4]) [] [] [] rfl (.tmp rfl .nil) ⟨rfl, rfl, rfl⟩ trivial rfl (by decide)
set_option maxHeartbeats 4000000 in
set_option maxRecDepth 100000 in
theorem goods_rising_Sub.ok (k : Nat) (l0 : List S93) (a1 : Int) (v0 : Value) (r1 : Bool) (h : goods_rising_Sub.f k l0 a1 = some r1) :
    VCalls Try.prog 74 [v0, .int .i64 a1, (.func (.func 75) #[] #[])] [.row v0 5 (l0.map enc93)] (fun v G own => v = .bool r1 ∧ G = [] ∧ own = []) := by
  refine VCalls.intro Try.func74 rfl (len rfl) fun E hC hW hD hU => ?_
  unfold goods_rising_Sub.f at h
  refine VC.seq ?_
  refine VC.region ?_
  refine VL.va (op_assign rfl (ltn rfl)) rfl ?_
  refine VL.done ?_
  refine VN.then ?_
  refine VC.seq ?_
  refine VC.seq ?_
  refine VC.region ?_
  refine VL.va (op_assign rfl (ltn rfl)) rfl ?_
  refine VL.done ?_
  refine VN.then ?_
  refine VC.block ?_
  refine VC.loop1 (fun (i1307 : Int) => ⟨30, [(0, v0), (1, .int .i64 a1), (2, (.func (.func 75) #[] #[])), (6, .bool false), (7, .int .i64 i1307)], [.row v0 5 (l0.map enc93)], [], []⟩) (fun (ml1 : Nat) (i1307 : Int) => goods_rising_Sub.l1 k a1 l0 ml1 i1307 = some r1) k 1 [] [] h ⟨rfl, ⟨rfl, rfl, rfl, rfl, rfl, trivial⟩, ⟨⟨0, rfl⟩, trivial⟩, rfl, by decide, rfl, by decide⟩ (by intros; simp [goods_rising_Sub.l1]) ?_
  clear h
  intro ml1 ihl1 i1307 h
  simp only [goods_rising_Sub.l1] at h
  refine VC.seq ?_
  refine VC.seq ?_
  refine VC.region ?_
  refine VL.va (op_move rfl (ltn rfl)) rfl ?_
  refine VL.va (op_move rfl (ltn rfl)) rfl ?_
  refine VL.va (op_len (m := l0.length) 0 lenm Try.underlying73 rfl rfl (ltn rfl)) rfl ?_
  refine VL.letter (decide (i1307 < (l0.length : Int))) fun b1331 hb1331 => ?_
  refine VL.va (op_cmp rfl rfl (congrArg some hb1331) (ltn rfl)) rfl ?_
  refine VL.done ?_
  refine VN.then ?_
  by_cases c1332 : i1307 < (l0.length : Int)
  · rw [if_pos c1332] at h
    obtain rfl : b1331 = true := hb1331.symm.trans (decide_eq_true c1332)
    refine VC.cond_t rfl ?_
    refine VC.skip ?_
    refine VN.then ?_
    refine VC.seq ?_
    refine VC.block ?_
    by_cases c1341 : 0 ≤ wrap64 (i1307 - 1)
    · rw [if_pos c1341] at h
      replace h := Option.bind_eq_some_iff.1 h
      obtain ⟨x1342, hx1342, h⟩ := h
      by_cases c1343 : 0 ≤ i1307
      · rw [if_pos c1343] at h
        replace h := Option.bind_eq_some_iff.1 h
        obtain ⟨x1344, hx1344, h⟩ := h
        replace h := Option.bind_eq_some_iff.1 h
        obtain ⟨t1345, hA1346, h⟩ := h
        refine VC.letter (decide (t1345 ≥ 0)) fun b1347 hb1347 => ?_
        refine VC.open (m := l0.length) 0 lenm rfl (pos_get hx1342) ?_
        rintro ad1114 n1115 rfl
        refine VC.join0 (⟨30, [(0, (.slice (some ad1114) l0.length n1115)), (1, .int .i64 a1), (2, (.func (.func 75) #[] #[])), (6, .bool false), (7, .int .i64 i1307), (8, .int .i64 i1307), (9, (.slice (some ad1114) l0.length n1115)), (10, .int .i64 (l0.length : Int)), (11, .bool true), (14, (.func (.func 75) #[] #[])), (15, (.slice (some ad1114) l0.length n1115)), (16, .int .i64 i1307), (17, .int .i64 (wrap64 (i1307 - 1))), (19, .agg #[.string x1342.f0, .string x1342.f1, .int .i64 x1342.f2, .int .i64 x1342.f3, .int .i64 x1342.f4]), (20, (.slice (some ad1114) l0.length n1115)), (21, .int .i64 i1307), (23, .agg #[.string x1344.f0, .string x1344.f1, .int .i64 x1344.f2, .int .i64 x1344.f3, .int .i64 x1344.f4]), (24, .int .i64 t1345), (25, .bool b1347)], [.row (.slice (some ad1114) l0.length n1115) 5 (l0.map enc93)], [], []⟩) (True) ?_ ?_
        · refine VC.draw ⟨0, [], [.row (.slice (some ad1114) l0.length n1115) 5 (l0.map enc93)], [], []⟩ (by kernel_rfl) rfl (by kernel_rfl) (n := 12) (listed := LB 12 0) ?_
          refine VA.va (i := 0) (listed' := LB 12 1) rfl (op_move rfl (ltn rfl)) rfl (by kernel_rfl) (by kernel_rfl) (by kernel_rfl) (by kernel_rfl) ⟨⟨⟨0, rfl⟩, trivial⟩, trivial, trivial⟩ (fun _ _ _ h => h) ?_
          refine VA.va (i := 1) (listed' := LB 12 3) rfl (op_move rfl (ltn rfl)) rfl (by kernel_rfl) (by kernel_rfl) (by kernel_rfl) (by kernel_rfl) ⟨⟨⟨0, rfl⟩, trivial⟩, trivial, trivial⟩ (fun _ _ _ h => h) ?_
          refine VA.va (i := 2) (listed' := LB 12 7) rfl (op_move rfl (ltn rfl)) rfl (by kernel_rfl) (by kernel_rfl) (by kernel_rfl) (by kernel_rfl) ⟨⟨⟨0, rfl⟩, trivial⟩, trivial, trivial⟩ (fun _ _ _ h => h) ?_
          refine VA.va (i := 3) (listed' := LB 12 15) rfl (op_ari64 rfl rfl rfl (ltn rfl)) rfl (by kernel_rfl) (by kernel_rfl) (by kernel_rfl) (by kernel_rfl) ⟨⟨⟨0, rfl⟩, trivial⟩, trivial, trivial⟩ (fun _ _ _ h => h) ?_
          refine VA.va (i := 4) (listed' := LB 12 31) rfl (op_indexAddr Try.underlying73 TI94 rfl rfl c1341 (lt_get c1341 hx1342) rfl (ltn rfl)) rfl (by kernel_rfl) (by kernel_rfl) (by kernel_rfl) (by kernel_rfl) ⟨⟨⟨0, rfl⟩, trivial⟩, trivial, trivial⟩ (fun _ _ _ h => h) ?_
          refine VA.va (i := 5) (listed' := LB 12 63) rfl (op_load_row (sz := 5) (o := 0) 0 (wrap64 (i1307 - 1)).toNat 5 rfl rfl (get_map hx1342) TI94 rfl (fun h => absurd h (by decide)) (ltn rfl)) rfl (by kernel_rfl) (by kernel_rfl) (by kernel_rfl) (by kernel_rfl) ⟨⟨⟨0, rfl⟩, trivial⟩, trivial, trivial⟩ (fun _ _ _ h => h) ?_
          refine VA.va (i := 6) (listed' := LB 12 127) rfl (op_move rfl (ltn rfl)) rfl (by kernel_rfl) (by kernel_rfl) (by kernel_rfl) (by kernel_rfl) ⟨⟨⟨0, rfl⟩, trivial⟩, trivial, trivial⟩ (fun _ _ _ h => h) ?_
          refine VA.va (i := 7) (listed' := LB 12 255) rfl (op_move rfl (ltn rfl)) rfl (by kernel_rfl) (by kernel_rfl) (by kernel_rfl) (by kernel_rfl) ⟨⟨⟨0, rfl⟩, trivial⟩, trivial, trivial⟩ (fun _ _ _ h => h) ?_
          refine VA.va (i := 8) (listed' := LB 12 511) rfl (op_indexAddr Try.underlying73 TI94 rfl rfl c1343 (lt_get c1343 hx1344) rfl (ltn rfl)) rfl (by kernel_rfl) (by kernel_rfl) (by kernel_rfl) (by kernel_rfl) ⟨⟨⟨0, rfl⟩, trivial⟩, trivial, trivial⟩ (fun _ _ _ h => h) ?_
          refine VA.va (i := 9) (listed' := LB 12 1023) rfl (op_load_row (sz := 5) (o := 0) 0 i1307.toNat 5 rfl rfl (get_map hx1344) TI94 rfl (fun h => absurd h (by decide)) (ltn rfl)) rfl (by kernel_rfl) (by kernel_rfl) (by kernel_rfl) (by kernel_rfl) ⟨⟨⟨0, rfl⟩, trivial⟩, trivial, trivial⟩ (fun _ _ _ h => h) ?_
          refine VA.oneC (i := 10) (listed' := LB 12 2047) (by kernel_rfl) rfl (o_call0 FO75 (goods_compare.ok k x1342.f0 x1342.f1 x1342.f2 x1342.f3 x1342.f4 x1344.f0 x1344.f1 x1344.f2 x1344.f3 x1344.f4 t1345 hA1346) rfl rfl (ltn rfl) (All_of .nil)) rfl (by kernel_rfl) ?_
          rintro _ _ _ ⟨rfl, rfl, rfl⟩
          refine ⟨⟨⟨⟨0, rfl⟩, trivial⟩, trivial, trivial⟩, ?_⟩
          refine VA.va (i := 11) (listed' := LB 12 4095) rfl (op_cmp rfl rfl (congrArg some hb1347) (ltn rfl)) rfl (by kernel_rfl) (by kernel_rfl) (by kernel_rfl) (by kernel_rfl) ⟨⟨⟨0, rfl⟩, trivial⟩, trivial, trivial⟩ (fun _ _ _ h => h) ?_
          refine VA.done (by kernel_rfl) ?_
          exact VN.meet0  [] [] trivial ⟨rfl, ⟨rfl, rfl, rfl, rfl, rfl, rfl, rfl, rfl, rfl, rfl, rfl, rfl, rfl, rfl, rfl, rfl, rfl, rfl, rfl, trivial⟩, ⟨⟨0, rfl⟩, trivial⟩, rfl, by decide, rfl, by decide⟩
        intro _
        by_cases c1348 : t1345 ≥ 0
        · rw [if_pos c1348] at h
          obtain rfl : b1347 = true := hb1347.symm.trans (decide_eq_true c1348)
          refine VC.cond_t rfl ?_
          refine VC.seq ?_
          refine VC.region ?_
          refine VL.va (op_assign rfl (ltn rfl)) rfl ?_
          refine VL.done ?_
          refine VN.then ?_
          refine VC.ret ?_
          refine VR.block ?_
          refine VR.then ?_
          refine VR.then ?_
          refine VR.block ?_
          refine VR.then ?_
          obtain rfl := Option.some.inj h
          exact VR.fn (rs := [.tmp 6]) [] [] [] rfl (.tmp rfl .nil) ⟨rfl, rfl, rfl⟩ trivial rfl (by decide)
        · rw [if_neg c1348] at h
          obtain rfl : b1347 = false := hb1347.symm.trans (decide_eq_false c1348)
          refine VC.cond_f rfl ?_
          refine VC.skip ?_
          refine VN.block ?_
          refine VN.then ?_
          refine VC.region ?_
          refine VL.va (op_move rfl (ltn rfl)) rfl ?_
          refine VL.va (op_ari64 rfl rfl rfl (ltn rfl)) rfl ?_
          refine VL.va (op_assign rfl (ltn rfl)) rfl ?_
          refine VL.done ?_
          refine VN.again [] [] (ihl1 (wrap64 (i1307 + 1)) h) ⟨rfl, ⟨rfl, rfl, rfl, rfl, rfl, trivial⟩, ⟨⟨0, rfl⟩, trivial⟩, rfl, by decide, rfl, by decide⟩
      · rw [if_neg c1343] at h; cases h
    · rw [if_neg c1341] at h; cases h
  · rw [if_neg c1332] at h
    obtain rfl : b1331 = false := hb1331.symm.trans (decide_eq_false c1332)
    refine VC.cond_f rfl ?_
    refine VC.exit ?_
    refine VX.then ?_
    refine VX.then ?_
    refine VX.hit ?_
    refine VN.then ?_
    refine VC.seq ?_
    refine VC.region ?_
    refine VL.va (op_move rfl (ltn rfl)) rfl ?_
    refine VL.va (op_len (m := l0.length) 0 lenm Try.underlying73 rfl rfl (ltn rfl)) rfl ?_
    refine VL.va (op_move rfl (ltn rfl)) rfl ?_
    refine VL.letter (decide ((l0.length : Int) ≤ a1)) fun b1349 hb1349 => ?_
    refine VL.va (op_cmp rfl rfl (congrArg some hb1349) (ltn rfl)) rfl ?_
    refine VL.va (op_assign rfl (ltn rfl)) rfl ?_
    refine VL.done ?_
    refine VN.then ?_
    refine VC.ret ?_
    obtain rfl := Option.some.inj h
    subst hb1349
    exact VR.fn (rs := [.tmp 6]) [] [] [] rfl (.tmp rfl .nil) ⟨rfl, rfl, rfl⟩ trivial rfl (by decide)

end Go.Proofs.Ytdofmkbffffbpaa.PWaitsBuilt
