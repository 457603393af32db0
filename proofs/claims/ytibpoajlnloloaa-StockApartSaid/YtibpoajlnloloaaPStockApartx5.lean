/- Written by a program of this repo: what the program's functions do, each as a Lean function, shown of the loaded code; or a statement's row over that; no condition of its own. -/
import Derived.Test.YtibpoajlnloloaaPStockApartx4
namespace Go.Proofs.Ytibpoajlnloloaa.PStockApart
open Go Go.RowKit Go.Proofs.YtibpoajlnloloaaV
set_option linter.unusedVariables false
set_option linter.unusedSimpArgs false

set_option maxHeartbeats 4000000 in
set_option maxRecDepth 100000 in
theorem tarrylaw08_alive.ok (k : Nat)   (r1 : Bool) (h : tarrylaw08_alive.f k = some r1) :
    VCalls Try.prog 10 [] [] (fun v G own => v = .bool r1 ∧ G = [] ∧ own = []) := by
  refine VCalls.intro Try.func10 rfl (len rfl) fun E hC => ?_
  unfold tarrylaw08_alive.f at h
  refine VC.seq ?_
  refine VC.region ?_
  refine VL.va (op_assign rfl (ltn rfl)) rfl ?_
  refine VL.done ?_
  refine VN.then ?_
  refine VC.seq ?_
  refine VC.region ?_
  refine VL.nilFact' 6 ?_
  replace h := Option.bind_eq_some_iff.1 h
  obtain ⟨⟨r1953, t1954⟩, hA1955, h⟩ := h
  dsimp only at h
  refine VL.sC (o_call0 FO8 (stock_Receive.ok k [] (⟨#[99, 117, 112]⟩ : ByteArray) 5 (.slice none 0 0) r1953 t1954 hA1955) rfl rfl (ltn rfl) (All_of (.cons (List.mem_of_getElem? (i := 0) rfl) .nil))) rfl ?_
  rintro _ _ _ ⟨v1957, rfl, rfl, rfl⟩
  refine VL.va (op_move rfl (ltn rfl)) rfl ?_
  refine VL.va (op_extract rfl rfl (ltn rfl)) rfl ?_
  refine VL.va (op_extract rfl rfl (ltn rfl)) rfl ?_
  refine VL.va (op_assign rfl (ltn rfl)) rfl ?_
  refine VL.va (op_assign rfl (ltn rfl)) rfl ?_
  refine VL.done ?_
  refine VN.then ?_
  refine VC.seq ?_
  refine VC.region ?_
  refine VL.va (op_move rfl (ltn rfl)) rfl ?_
  replace h := Option.bind_eq_some_iff.1 h
  obtain ⟨⟨r2021, t2022⟩, hA2023, h⟩ := h
  dsimp only at h
  refine VL.sC (o_call_b0 FO13 (stock_Hold.ok k r1953 (⟨#[99, 117, 112]⟩ : ByteArray) 2 v1957 r2021 t2022 hA2023) rfl rfl (ltn rfl) (All_of (.cons (.inr (.inl ⟨_, List.mem_of_getElem? (i := 0) rfl, rfl⟩)) .nil)) (by rintro _ _ _ ⟨v2025, rfl, rfl, rfl⟩; rfl)) rfl ?_
  rintro _ _ _ ⟨v2025, rfl, rfl, rfl⟩
  refine VL.va (op_move rfl (ltn rfl)) rfl ?_
  refine VL.va (op_extract rfl rfl (ltn rfl)) rfl ?_
  refine VL.va (op_extract rfl rfl (ltn rfl)) rfl ?_
  refine VL.va (op_assign rfl (ltn rfl)) rfl ?_
  refine VL.va (op_assign rfl (ltn rfl)) rfl ?_
  refine VL.done ?_
  refine VN.then ?_
  refine VC.seq ?_
  refine VC.region ?_
  refine VL.va (op_move rfl (ltn rfl)) rfl ?_
  refine VL.letter ((t1954 == 0)) fun b2036 hb2036 => ?_
  refine VL.va (op_cmp rfl rfl (congrArg some hb2036) (ltn rfl)) rfl ?_
  refine VL.va (op_move rfl (ltn rfl)) rfl ?_
  by_cases c2037 : t1954 = 0
  · rw [if_pos c2037] at h
    obtain rfl : b2036 = true := hb2036.symm.trans (beq_iff_eq.2 c2037)
    refine VL.va (op_move rfl (ltn rfl)) rfl ?_
    refine VL.letter ((t2022 == 0)) fun b2038 hb2038 => ?_
    refine VL.va (op_cmp rfl rfl (congrArg some hb2038) (ltn rfl)) rfl ?_
    refine VL.va (op_pick rfl rfl (ltn rfl)) rfl ?_
    refine VL.va (op_move rfl (ltn rfl)) rfl ?_
    by_cases c2039 : t2022 = 0
    · rw [if_pos c2039] at h
      obtain rfl : b2038 = true := hb2038.symm.trans (beq_iff_eq.2 c2039)
      refine VL.va (op_move rfl (ltn rfl)) rfl ?_
      refine VL.va (op_len_own (m := r2021.length) 0 lenm Try.underlying23 rfl rfl (ltn rfl)) rfl ?_
      refine VL.letter (((r2021.length : Int) == 1)) fun b2040 hb2040 => ?_
      refine VL.va (op_cmp rfl rfl (congrArg some hb2040) (ltn rfl)) rfl ?_
      refine VL.va (op_pick rfl rfl (ltn rfl)) rfl ?_
      refine VL.va (op_move rfl (ltn rfl)) rfl ?_
      by_cases c2041 : (r2021.length : Int) = 1
      · rw [if_pos c2041] at h
        obtain rfl : b2040 = true := hb2040.symm.trans (beq_iff_eq.2 c2041)
        refine VL.va (op_move rfl (ltn rfl)) rfl ?_
        replace h := Option.bind_eq_some_iff.1 h
        obtain ⟨x2042, hx2042, h⟩ := h
        refine VL.openR (m := r2021.length) 0 lenm rfl (pos_get hx2042) ?_
        rintro g2043 n2044 rfl
        refine VL.va (op_indexAddr Try.underlying23 TI33 rfl rfl (by decide) (lt_get (by decide) hx2042) (add_zero_at _ _) (ltn rfl)) rfl ?_
        refine VL.va (op_load_own (sz := 6) (o := 0) 0 0 6 rfl rfl (get_map hx2042) TI33 rfl (fun h => absurd h (by decide)) (ltn rfl)) rfl ?_
        refine VL.va (op_build (vals := [(0, .string (⟨#[99, 117, 112]⟩ : ByteArray)), (1, .int .i64 5), (2, .int .i64 3), (3, .int .i64 2)]) (vcs := [(0, [.string (⟨#[99, 117, 112]⟩ : ByteArray)]), (1, [.int .i64 5]), (2, [.int .i64 3]), (3, [.int .i64 2])]) (cells := [.string (⟨#[99, 117, 112]⟩ : ByteArray), .int .i64 5, .int .i64 3, .int .i64 2, .int .i64 0, .int .i64 0]) SI33 rfl (.cons ⟨rfl, (.c rfl)⟩ (.cons ⟨rfl, (.c rfl)⟩ (.cons ⟨rfl, (.c rfl)⟩ (.cons ⟨rfl, (.c rfl)⟩ .nil)))) (by kernel_rfl) (ltn rfl)) rfl ?_
        refine VL.letter ((((x2042.f0 == (⟨#[99, 117, 112]⟩ : ByteArray)) && ((x2042.f1 == 5) && ((x2042.f2 == 3) && ((x2042.f3 == 2) && ((x2042.f4 == 0) && (x2042.f5 == 0)))))))) fun b2045 hb2045 => ?_
        refine VL.va (op_eqS rfl rfl EG33 (EQ33 x2042.f0 x2042.f1 x2042.f2 x2042.f3 x2042.f4 x2042.f5 (⟨#[99, 117, 112]⟩ : ByteArray) 5 3 2 0 0) hb2045 (ltn rfl)) rfl ?_
        refine VL.va (op_pick rfl rfl (ltn rfl)) rfl ?_
        refine VL.va (op_assign rfl (ltn rfl)) rfl ?_
        refine VL.done ?_
        refine VN.then ?_
        refine VC.ret ?_
        obtain rfl := Option.some.inj h
        subst hb2045
        exact VR.fn (rs := [.tmp 0]) [] [] [] rfl (.tmp rfl .nil) ⟨rfl, rfl, rfl⟩ trivial rfl (by decide)
      · rw [if_neg c2041] at h
        obtain rfl : b2040 = false := hb2040.symm.trans (beq_eq_false_iff_ne.2 c2041)
        refine VL.un rfl rfl (ltn rfl) ?_
        refine VL.un rfl rfl (ltn rfl) ?_
        refine VL.un rfl rfl (ltn rfl) ?_
        refine VL.un rfl rfl (ltn rfl) ?_
        refine VL.un rfl rfl (ltn rfl) ?_
        refine VL.va (op_pick rfl rfl (ltn rfl)) rfl ?_
        refine VL.va (op_assign rfl (ltn rfl)) rfl ?_
        refine VL.done ?_
        refine VN.then ?_
        refine VC.ret ?_
        obtain rfl := Option.some.inj h
        exact VR.fn (rs := [.tmp 0]) [] [] [] rfl (.tmp rfl .nil) ⟨rfl, rfl, rfl⟩ trivial rfl (by decide)
    · rw [if_neg c2039] at h
      obtain rfl : b2038 = false := hb2038.symm.trans (beq_eq_false_iff_ne.2 c2039)
      refine VL.un rfl rfl (ltn rfl) ?_
      refine VL.un rfl rfl (ltn rfl) ?_
      refine VL.un rfl rfl (ltn rfl) ?_
      refine VL.va (op_pick rfl rfl (ltn rfl)) rfl ?_
      refine VL.va (op_move rfl (ltn rfl)) rfl ?_
      refine VL.un rfl rfl (ltn rfl) ?_
      refine VL.un rfl rfl (ltn rfl) ?_
      refine VL.un rfl rfl (ltn rfl) ?_
      refine VL.un rfl rfl (ltn rfl) ?_
      refine VL.un rfl rfl (ltn rfl) ?_
      refine VL.va (op_pick rfl rfl (ltn rfl)) rfl ?_
      refine VL.va (op_assign rfl (ltn rfl)) rfl ?_
      refine VL.done ?_
      refine VN.then ?_
      refine VC.ret ?_
      obtain rfl := Option.some.inj h
      exact VR.fn (rs := [.tmp 0]) [] [] [] rfl (.tmp rfl .nil) ⟨rfl, rfl, rfl⟩ trivial rfl (by decide)
  · rw [if_neg c2037] at h
    obtain rfl : b2036 = false := hb2036.symm.trans (beq_eq_false_iff_ne.2 c2037)
    refine VL.un rfl rfl (ltn rfl) ?_
    refine VL.un rfl rfl (ltn rfl) ?_
    refine VL.va (op_pick rfl rfl (ltn rfl)) rfl ?_
    refine VL.va (op_move rfl (ltn rfl)) rfl ?_
    refine VL.un rfl rfl (ltn rfl) ?_
    refine VL.un rfl rfl (ltn rfl) ?_
    refine VL.un rfl rfl (ltn rfl) ?_
    refine VL.va (op_pick rfl rfl (ltn rfl)) rfl ?_
    refine VL.va (op_move rfl (ltn rfl)) rfl ?_
    refine VL.un rfl rfl (ltn rfl) ?_
    refine VL.un rfl rfl (ltn rfl) ?_
    refine VL.un rfl rfl (ltn rfl) ?_
    refine VL.un rfl rfl (ltn rfl) ?_
    refine VL.un rfl rfl (ltn rfl) ?_
    refine VL.va (op_pick rfl rfl (ltn rfl)) rfl ?_
    refine VL.va (op_assign rfl (ltn rfl)) rfl ?_
    refine VL.done ?_
    refine VN.then ?_
    refine VC.ret ?_
    obtain rfl := Option.some.inj h
    exact VR.fn (rs := [.tmp 0]) [] [] [] rfl (.tmp rfl .nil) ⟨rfl, rfl, rfl⟩ trivial rfl (by decide)
set_option maxHeartbeats 4000000 in
set_option maxRecDepth 100000 in
theorem stock_Release_1.ok  (p0 : Addr)  (h : stock_Release_1.f = some ()) :
    VCalls Try.prog 30 [.pointer (some p0)] [] (fun v G own => v = .tuple #[.pointer (some (p0.add 3)), .pointer (some (p0.add 2))] ∧ G = [] ∧ own = []) := by
  refine VCalls.intro Try.func30 rfl (len rfl) fun E hC => ?_
  unfold stock_Release_1.f at h
  refine VC.seq ?_
  refine VC.region ?_
  refine VL.va (op_assign rfl (ltn rfl)) rfl ?_
  refine VL.va (op_assign rfl (ltn rfl)) rfl ?_
  refine VL.done ?_
  refine VN.then ?_
  refine VC.join0 (⟨10, [(2, .pointer (some (p0.add 3))), (3, .pointer (some (p0.add 2)))], [], [], []⟩) (True) ?_ ?_
  · refine VC.draw ⟨0, [], [], [], []⟩ (by kernel_rfl) rfl (by kernel_rfl) (n := 8) (listed := LB 8 0) ?_
    refine VA.va (i := 0) (listed' := LB 8 1) rfl (op_move rfl (ltn rfl)) rfl (by kernel_rfl) (by kernel_rfl) (by kernel_rfl) (by kernel_rfl) ⟨trivial, trivial, trivial⟩ (fun _ _ _ h => h) ?_
    refine VA.va (i := 1) (listed' := LB 8 3) rfl (op_nilCheck rfl (ltn rfl)) rfl (by kernel_rfl) (by kernel_rfl) (by kernel_rfl) (by kernel_rfl) ⟨trivial, trivial, trivial⟩ (fun _ _ _ h => h) ?_
    refine VA.va (i := 2) (listed' := LB 8 7) rfl (op_fieldAddr FI33_3 rfl rfl (ltn rfl)) rfl (by kernel_rfl) (by kernel_rfl) (by kernel_rfl) (by kernel_rfl) ⟨trivial, trivial, trivial⟩ (fun _ _ _ h => h) ?_
    refine VA.va (i := 3) (listed' := LB 8 15) rfl (op_move rfl (ltn rfl)) rfl (by kernel_rfl) (by kernel_rfl) (by kernel_rfl) (by kernel_rfl) ⟨trivial, trivial, trivial⟩ (fun _ _ _ h => h) ?_
    refine VA.va (i := 4) (listed' := LB 8 31) rfl (op_nilCheck rfl (ltn rfl)) rfl (by kernel_rfl) (by kernel_rfl) (by kernel_rfl) (by kernel_rfl) ⟨trivial, trivial, trivial⟩ (fun _ _ _ h => h) ?_
    refine VA.va (i := 5) (listed' := LB 8 63) rfl (op_fieldAddr FI33_2 rfl rfl (ltn rfl)) rfl (by kernel_rfl) (by kernel_rfl) (by kernel_rfl) (by kernel_rfl) ⟨trivial, trivial, trivial⟩ (fun _ _ _ h => h) ?_
    refine VA.va (i := 6) (listed' := LB 8 127) rfl (op_assign rfl (ltn rfl)) rfl (by kernel_rfl) (by kernel_rfl) (by kernel_rfl) (by kernel_rfl) ⟨trivial, trivial, trivial⟩ (fun _ _ _ h => h) ?_
    refine VA.va (i := 7) (listed' := LB 8 255) rfl (op_assign rfl (ltn rfl)) rfl (by kernel_rfl) (by kernel_rfl) (by kernel_rfl) (by kernel_rfl) ⟨trivial, trivial, trivial⟩ (fun _ _ _ h => h) ?_
    refine VA.done (by kernel_rfl) ?_
    exact VN.meet0  [] [] trivial ⟨rfl, ⟨rfl, rfl, trivial⟩, trivial, rfl, by decide, rfl, by decide⟩
  intro _
  refine VC.ret ?_
  exact VR.fn (rs := [.tmp 2, .tmp 3]) [] [] [] rfl (.tmp rfl (.tmp rfl .nil)) ⟨rfl, rfl, rfl⟩ trivial rfl (by decide)
set_option maxHeartbeats 4000000 in
set_option maxRecDepth 100000 in
theorem stock_move_s41.ok (k : Nat) (l0 : List S32) (a1 : ByteArray) (a2 : Int) (v0 : Value) (r1 : List S32) (r2 : Int) (h : stock_move_s41.f k l0 a1 a2 = some (r1, r2)) :
    VCalls Try.prog 28 [v0, .string a1, .int .i64 a2, (.func (.func 30) #[] #[])] [.row v0 6 (l0.map enc32)] (fun v G own => ∃ w0 : Value, v = .tuple #[w0, .int .i64 r2] ∧ G = [] ∧ own = [(w0, 33, 6, r1.map enc32)]) := by
  refine VCalls.intro Try.func28 rfl (len rfl) fun E hC => ?_
  unfold stock_move_s41.f at h
  refine VC.seq ?_
  refine VC.region ?_
  refine VL.va (op_assign rfl (ltn rfl)) rfl ?_
  refine VL.va (op_assign rfl (ltn rfl)) rfl ?_
  refine VL.done ?_
  refine VN.then ?_
  refine VC.seq ?_
  refine VC.seq ?_
  refine VC.region ?_
  refine VL.va (op_move rfl (ltn rfl)) rfl ?_
  replace h := Option.bind_eq_some_iff.1 h
  obtain ⟨t2084, hA2085, h⟩ := h
  refine VL.sC (o_call0 FO9 (stock_Right.ok k l0 v0 t2084 hA2085) rfl rfl (ltn rfl) (All_of (.cons (List.mem_of_getElem? (i := 0) rfl) .nil))) rfl ?_
  rintro _ _ _ ⟨rfl, rfl, rfl⟩
  by_cases c2086 : t2084 = true
  · rw [if_pos c2086] at h
    obtain rfl := c2086
    refine VL.va (op_not rfl rfl (ltn rfl)) rfl ?_
    refine VL.va (op_move rfl (ltn rfl)) rfl ?_
    refine VL.va (op_move rfl (ltn rfl)) rfl ?_
    replace h := Option.bind_eq_some_iff.1 h
    obtain ⟨t2087, hA2088, h⟩ := h
    refine VL.sC (o_call0 FO22 (stock_units.ok a2 t2087 hA2088) rfl rfl (ltn rfl) (All_of .nil)) rfl ?_
    rintro _ _ _ ⟨rfl, rfl, rfl⟩
    by_cases c2089 : t2087 = true
    · rw [if_pos c2089] at h
      obtain rfl := c2089
      refine VL.va (op_not rfl rfl (ltn rfl)) rfl ?_
      refine VL.va (op_pick rfl rfl (ltn rfl)) rfl ?_
      refine VL.done ?_
      refine VN.then ?_
      refine VC.cond_f rfl ?_
      refine VC.skip ?_
      refine VN.then ?_
      refine VC.seq ?_
      refine VC.region ?_
      refine VL.va (op_move rfl (ltn rfl)) rfl ?_
      refine VL.va (op_move rfl (ltn rfl)) rfl ?_
      replace h := Option.bind_eq_some_iff.1 h
      obtain ⟨⟨t2090, t2091⟩, hA2092, h⟩ := h
      dsimp only at h
      refine VL.sC (o_call0 FO24 (stock_at.ok k l0 a1 v0 t2090 t2091 hA2092) rfl rfl (ltn rfl) (All_of (.cons (List.mem_of_getElem? (i := 0) rfl) .nil))) rfl ?_
      rintro _ _ _ ⟨rfl, rfl, rfl⟩
      refine VL.va (op_move rfl (ltn rfl)) rfl ?_
      refine VL.va (op_extract rfl rfl (ltn rfl)) rfl ?_
      refine VL.va (op_extract rfl rfl (ltn rfl)) rfl ?_
      refine VL.va (op_assign rfl (ltn rfl)) rfl ?_
      refine VL.va (op_assign rfl (ltn rfl)) rfl ?_
      refine VL.done ?_
      refine VN.then ?_
      refine VC.seq ?_
      refine VC.seq ?_
      refine VC.region ?_
      refine VL.va (op_move rfl (ltn rfl)) rfl ?_
      by_cases c2097 : t2091 = true
      · rw [if_pos c2097] at h
        obtain rfl := c2097
        refine VL.va (op_not rfl rfl (ltn rfl)) rfl ?_
        refine VL.done ?_
        refine VN.then ?_
        refine VC.cond_f rfl ?_
        refine VC.skip ?_
        refine VN.then ?_
        refine VC.seq ?_
        refine VC.region ?_
        refine VL.va (op_move rfl (ltn rfl)) rfl ?_
        replace h := Option.bind_eq_some_iff.1 h
        obtain ⟨r2098, hA2099, h⟩ := h
        refine VL.sC (o_call_b0 FO25 (slices_Clone_api_Row_api_Row.ok l0 v0 r2098 hA2099) rfl rfl (ltn rfl) (All_of (.cons (.inl (List.mem_of_getElem? (i := 0) rfl)) .nil)) (by rintro _ _ _ ⟨_, rfl, rfl, rfl⟩; rfl)) rfl ?_
        rintro v2101 _ _ ⟨_, rfl, rfl, rfl⟩
        refine VL.va (op_assign rfl (ltn rfl)) rfl ?_
        refine VL.done ?_
        refine VN.then ?_
        refine VC.seq ?_
        refine VC.region ?_
        refine VL.va (op_move rfl (ltn rfl)) rfl ?_
        refine VL.va (op_move rfl (ltn rfl)) rfl ?_
        refine VL.va (op_move rfl (ltn rfl)) rfl ?_
        by_cases c2102 : 0 ≤ t2090
        · rw [if_pos c2102] at h
          replace h := Option.bind_eq_some_iff.1 h
          obtain ⟨x2103, hx2103, h⟩ := h
          refine VL.openR (m := r2098.length) 0 lenm rfl (pos_get hx2103) ?_
          rintro g2104 n2105 rfl
          refine VL.va (op_indexAddr Try.underlying23 TI33 rfl rfl c2102 (lt_get c2102 hx2103) (add_zero_at _ _) (ltn rfl)) rfl ?_
          replace h := Option.bind_eq_some_iff.1 h
          obtain ⟨_, hA2106, h⟩ := h
          refine VL.sC (o_call0 FO30 (stock_Release_1.ok (⟨g2104, t2090.toNat * 6, none⟩ : Addr) hA2106) rfl rfl (ltn rfl) (All_of .nil)) rfl ?_
          rintro _ _ _ ⟨rfl, rfl, rfl⟩
          refine VL.va (op_move rfl (ltn rfl)) rfl ?_
          refine VL.va (op_extract rfl rfl (ltn rfl)) rfl ?_
          refine VL.va (op_extract rfl rfl (ltn rfl)) rfl ?_
          refine VL.va (op_assign rfl (ltn rfl)) rfl ?_
          refine VL.va (op_assign rfl (ltn rfl)) rfl ?_
          refine VL.done ?_
          refine VN.then ?_
          refine VC.seq ?_
          refine VC.seq ?_
          refine VC.region ?_
          refine VL.va (op_move rfl (ltn rfl)) rfl ?_
          refine VL.va (op_nilCheck rfl (ltn rfl)) rfl ?_
          refine VL.va (op_load_own (sz := 6) (o := 3) 0 t2090.toNat 1 rfl rfl (get_map hx2103) TI3 rfl (by decide) (ltn rfl)) rfl ?_
          refine VL.va (op_move rfl (ltn rfl)) rfl ?_
          refine VL.letter (decide (x2103.f3 < a2)) fun b2110 hb2110 => ?_
          refine VL.va (op_cmp rfl rfl (congrArg some hb2110) (ltn rfl)) rfl ?_
          refine VL.done ?_
          refine VN.then ?_
          by_cases c2111 : x2103.f3 < a2
          · rw [if_pos c2111] at h
            obtain rfl : b2110 = true := hb2110.symm.trans (decide_eq_true c2111)
            refine VC.cond_t rfl ?_
            refine VC.seq ?_
            refine VC.region ?_
            refine VL.va (op_assign rfl (ltn rfl)) rfl ?_
            refine VL.va (op_assign rfl (ltn rfl)) rfl ?_
            refine VL.done ?_
            refine VN.then ?_
            refine VC.ret ?_
            refine VR.then ?_
            simp only [Option.some.injEq, Prod.mk.injEq] at h
            obtain ⟨rfl, rfl⟩ := h
            refine VR.nilRow' 33 6 ?_
            exact VR.fn (rs := [.tmp 8, .tmp 9]) [] [((.slice none 0 0), 33, 6, ([] : List S32).map enc32)] [0] rfl (.tmp rfl (.tmp rfl .nil)) ⟨(.slice none 0 0), rfl, rfl, rfl⟩ trivial rfl (by decide)
          · rw [if_neg c2111] at h
            obtain rfl : b2110 = false := hb2110.symm.trans (decide_eq_false c2111)
            refine VC.cond_f rfl ?_
            refine VC.skip ?_
            refine VN.then ?_
            refine VC.seq ?_
            refine VC.region ?_
            refine VL.va (op_move rfl (ltn rfl)) rfl ?_
            refine VL.va (op_nilCheck rfl (ltn rfl)) rfl ?_
            refine VL.va (op_load_own (sz := 6) (o := 3) 0 t2090.toNat 1 rfl rfl (get_map hx2103) TI3 rfl (by decide) (ltn rfl)) rfl ?_
            refine VL.va (op_move rfl (ltn rfl)) rfl ?_
            refine VL.va (op_ari64 rfl rfl rfl (ltn rfl)) rfl ?_
            refine VL.va (op_nilCheck rfl (ltn rfl)) rfl ?_
            refine VL.step1 (o_store_own (sz := 6) (o := 3) (es3 := List.map enc32 (r2098.set t2090.toNat (⟨x2103.f0, x2103.f1, x2103.f2, wrap64 (x2103.f3 - a2), x2103.f4, x2103.f5⟩ : S32))) 0 t2090.toNat 1 lenm (setm rfl) rfl rfl rfl (get_map hx2103) TI3 (.c rfl) rfl (len rfl)) rfl ?_
            refine VL.done ?_
            refine VN.then ?_
            refine VC.seq ?_
            refine VC.region ?_
            refine VL.va (op_move rfl (ltn rfl)) rfl ?_
            refine VL.va (op_nilCheck rfl (ltn rfl)) rfl ?_
            refine VL.va (op_load_own (sz := 6) (o := 2) 0 t2090.toNat 1 rfl rfl (get_map (set_get hx2103)) TI3 rfl (by decide) (ltn rfl)) rfl ?_
            refine VL.va (op_move rfl (ltn rfl)) rfl ?_
            refine VL.va (op_ari64 rfl rfl rfl (ltn rfl)) rfl ?_
            refine VL.va (op_nilCheck rfl (ltn rfl)) rfl ?_
            refine VL.step1 (o_store_own (sz := 6) (o := 2) (es3 := List.map enc32 ((r2098.set t2090.toNat (⟨x2103.f0, x2103.f1, x2103.f2, wrap64 (x2103.f3 - a2), x2103.f4, x2103.f5⟩ : S32)).set t2090.toNat (⟨x2103.f0, x2103.f1, wrap64 (x2103.f2 + a2), wrap64 (x2103.f3 - a2), x2103.f4, x2103.f5⟩ : S32))) 0 t2090.toNat 1 (by simp) (setm rfl) rfl rfl rfl (get_map (set_get hx2103)) TI3 (.c rfl) rfl (len rfl)) rfl ?_
            refine VL.done ?_
            refine VN.then ?_
            refine VC.seq ?_
            refine VC.region ?_
            refine VL.va (op_move rfl (ltn rfl)) rfl ?_
            refine VL.va (op_assign rfl (ltn rfl)) rfl ?_
            refine VL.va (op_assign rfl (ltn rfl)) rfl ?_
            refine VL.done ?_
            refine VN.then ?_
            refine VC.ret ?_
            simp only [Option.some.injEq, Prod.mk.injEq] at h
            obtain ⟨rfl, rfl⟩ := h
            exact VR.fn (rs := [.tmp 8, .tmp 9]) [] [((.slice (some ⟨g2104, 0, none⟩) r2098.length n2105), 33, 6, ((r2098.set t2090.toNat (⟨x2103.f0, x2103.f1, x2103.f2, wrap64 (x2103.f3 - a2), x2103.f4, x2103.f5⟩ : S32)).set t2090.toNat (⟨x2103.f0, x2103.f1, wrap64 (x2103.f2 + a2), wrap64 (x2103.f3 - a2), x2103.f4, x2103.f5⟩ : S32)).map enc32)] [0] rfl (.tmp rfl (.tmp rfl .nil)) ⟨(.slice (some ⟨g2104, 0, none⟩) r2098.length n2105), rfl, rfl, rfl⟩ trivial rfl (by decide)
        · rw [if_neg c2102] at h; cases h
      · rw [if_neg c2097] at h
        obtain rfl := Bool.eq_false_iff.2 c2097
        refine VL.va (op_not rfl rfl (ltn rfl)) rfl ?_
        refine VL.done ?_
        refine VN.then ?_
        refine VC.cond_t rfl ?_
        refine VC.seq ?_
        refine VC.region ?_
        refine VL.va (op_assign rfl (ltn rfl)) rfl ?_
        refine VL.va (op_assign rfl (ltn rfl)) rfl ?_
        refine VL.done ?_
        refine VN.then ?_
        refine VC.ret ?_
        refine VR.then ?_
        simp only [Option.some.injEq, Prod.mk.injEq] at h
        obtain ⟨rfl, rfl⟩ := h
        refine VR.nilRow' 33 6 ?_
        exact VR.fn (rs := [.tmp 8, .tmp 9]) [] [((.slice none 0 0), 33, 6, ([] : List S32).map enc32)] [0] rfl (.tmp rfl (.tmp rfl .nil)) ⟨(.slice none 0 0), rfl, rfl, rfl⟩ trivial rfl (by decide)
    · rw [if_neg c2089] at h
      obtain rfl := Bool.eq_false_iff.2 c2089
      refine VL.va (op_not rfl rfl (ltn rfl)) rfl ?_
      refine VL.va (op_pick rfl rfl (ltn rfl)) rfl ?_
      refine VL.done ?_
      refine VN.then ?_
      refine VC.cond_t rfl ?_
      refine VC.seq ?_
      refine VC.region ?_
      refine VL.va (op_assign rfl (ltn rfl)) rfl ?_
      refine VL.va (op_assign rfl (ltn rfl)) rfl ?_
      refine VL.done ?_
      refine VN.then ?_
      refine VC.ret ?_
      refine VR.then ?_
      simp only [Option.some.injEq, Prod.mk.injEq] at h
      obtain ⟨rfl, rfl⟩ := h
      refine VR.nilRow' 33 6 ?_
      exact VR.fn (rs := [.tmp 8, .tmp 9]) [] [((.slice none 0 0), 33, 6, ([] : List S32).map enc32)] [0] rfl (.tmp rfl (.tmp rfl .nil)) ⟨(.slice none 0 0), rfl, rfl, rfl⟩ trivial rfl (by decide)
  · rw [if_neg c2086] at h
    obtain rfl := Bool.eq_false_iff.2 c2086
    refine VL.va (op_not rfl rfl (ltn rfl)) rfl ?_
    refine VL.va (op_move rfl (ltn rfl)) rfl ?_
    refine VL.un rfl rfl (ltn rfl) ?_
    refine VL.un rfl rfl (ltn rfl) ?_
    refine VL.un rfl rfl (ltn rfl) ?_
    refine VL.va (op_pick rfl rfl (ltn rfl)) rfl ?_
    refine VL.done ?_
    refine VN.then ?_
    refine VC.cond_t rfl ?_
    refine VC.seq ?_
    refine VC.region ?_
    refine VL.va (op_assign rfl (ltn rfl)) rfl ?_
    refine VL.va (op_assign rfl (ltn rfl)) rfl ?_
    refine VL.done ?_
    refine VN.then ?_
    refine VC.ret ?_
    refine VR.then ?_
    simp only [Option.some.injEq, Prod.mk.injEq] at h
    obtain ⟨rfl, rfl⟩ := h
    refine VR.nilRow' 33 6 ?_
    exact VR.fn (rs := [.tmp 8, .tmp 9]) [] [((.slice none 0 0), 33, 6, ([] : List S32).map enc32)] [0] rfl (.tmp rfl (.tmp rfl .nil)) ⟨(.slice none 0 0), rfl, rfl, rfl⟩ trivial rfl (by decide)
set_option maxHeartbeats 4000000 in
set_option maxRecDepth 100000 in
theorem stock_Release.ok (k : Nat) (l0 : List S32) (a1 : ByteArray) (a2 : Int) (v0 : Value) (r1 : List S32) (r2 : Int) (h : stock_Release.f k l0 a1 a2 = some (r1, r2)) :
    VCalls Try.prog 15 [v0, .string a1, .int .i64 a2] [.row v0 6 (l0.map enc32)] (fun v G own => ∃ w0 : Value, v = .tuple #[w0, .int .i64 r2] ∧ G = [] ∧ own = [(w0, 33, 6, r1.map enc32)]) := by
  refine VCalls.intro Try.func15 rfl (len rfl) fun E hC => ?_
  unfold stock_Release.f at h
  refine VC.seq ?_
  refine VC.region ?_
  refine VL.va (op_assign rfl (ltn rfl)) rfl ?_
  refine VL.va (op_assign rfl (ltn rfl)) rfl ?_
  refine VL.done ?_
  refine VN.then ?_
  refine VC.seq ?_
  refine VC.region ?_
  refine VL.va (op_move rfl (ltn rfl)) rfl ?_
  refine VL.va (op_move rfl (ltn rfl)) rfl ?_
  refine VL.va (op_move rfl (ltn rfl)) rfl ?_
  replace h := Option.bind_eq_some_iff.1 h
  obtain ⟨⟨r2120, t2121⟩, hA2122, h⟩ := h
  dsimp only at h
  refine VL.sC (o_call0 FO28 (stock_move_s41.ok k l0 a1 a2 v0 r2120 t2121 hA2122) rfl rfl (ltn rfl) (All_of (.cons (List.mem_of_getElem? (i := 0) rfl) .nil))) rfl ?_
  rintro _ _ _ ⟨v2124, rfl, rfl, rfl⟩
  refine VL.va (op_extract rfl rfl (ltn rfl)) rfl ?_
  refine VL.va (op_extract rfl rfl (ltn rfl)) rfl ?_
  refine VL.va (op_assign rfl (ltn rfl)) rfl ?_
  refine VL.va (op_assign rfl (ltn rfl)) rfl ?_
  refine VL.done ?_
  refine VN.then ?_
  refine VC.ret ?_
  simp only [Option.some.injEq, Prod.mk.injEq] at h
  obtain ⟨rfl, rfl⟩ := h
  exact VR.fn (rs := [.tmp 6, .tmp 7]) [] [(v2124, 33, 6, r2120.map enc32)] [0] rfl (.tmp rfl (.tmp rfl .nil)) ⟨v2124, rfl, rfl, rfl⟩ trivial rfl (by decide)
set_option maxHeartbeats 4000000 in
set_option maxRecDepth 100000 in
theorem stock_Ship_1.ok  (p0 : Addr)  (h : stock_Ship_1.f = some ()) :
    VCalls Try.prog 31 [.pointer (some p0)] [] (fun v G own => v = .tuple #[.pointer (some (p0.add 3)), .pointer (some (p0.add 4))] ∧ G = [] ∧ own = []) := by
  refine VCalls.intro Try.func31 rfl (len rfl) fun E hC => ?_
  unfold stock_Ship_1.f at h
  refine VC.seq ?_
  refine VC.region ?_
  refine VL.va (op_assign rfl (ltn rfl)) rfl ?_
  refine VL.va (op_assign rfl (ltn rfl)) rfl ?_
  refine VL.done ?_
  refine VN.then ?_
  refine VC.join0 (⟨10, [(2, .pointer (some (p0.add 3))), (3, .pointer (some (p0.add 4)))], [], [], []⟩) (True) ?_ ?_
  · refine VC.draw ⟨0, [], [], [], []⟩ (by kernel_rfl) rfl (by kernel_rfl) (n := 8) (listed := LB 8 0) ?_
    refine VA.va (i := 0) (listed' := LB 8 1) rfl (op_move rfl (ltn rfl)) rfl (by kernel_rfl) (by kernel_rfl) (by kernel_rfl) (by kernel_rfl) ⟨trivial, trivial, trivial⟩ (fun _ _ _ h => h) ?_
    refine VA.va (i := 1) (listed' := LB 8 3) rfl (op_nilCheck rfl (ltn rfl)) rfl (by kernel_rfl) (by kernel_rfl) (by kernel_rfl) (by kernel_rfl) ⟨trivial, trivial, trivial⟩ (fun _ _ _ h => h) ?_
    refine VA.va (i := 2) (listed' := LB 8 7) rfl (op_fieldAddr FI33_3 rfl rfl (ltn rfl)) rfl (by kernel_rfl) (by kernel_rfl) (by kernel_rfl) (by kernel_rfl) ⟨trivial, trivial, trivial⟩ (fun _ _ _ h => h) ?_
    refine VA.va (i := 3) (listed' := LB 8 15) rfl (op_move rfl (ltn rfl)) rfl (by kernel_rfl) (by kernel_rfl) (by kernel_rfl) (by kernel_rfl) ⟨trivial, trivial, trivial⟩ (fun _ _ _ h => h) ?_
    refine VA.va (i := 4) (listed' := LB 8 31) rfl (op_nilCheck rfl (ltn rfl)) rfl (by kernel_rfl) (by kernel_rfl) (by kernel_rfl) (by kernel_rfl) ⟨trivial, trivial, trivial⟩ (fun _ _ _ h => h) ?_
    refine VA.va (i := 5) (listed' := LB 8 63) rfl (op_fieldAddr FI33_4 rfl rfl (ltn rfl)) rfl (by kernel_rfl) (by kernel_rfl) (by kernel_rfl) (by kernel_rfl) ⟨trivial, trivial, trivial⟩ (fun _ _ _ h => h) ?_
    refine VA.va (i := 6) (listed' := LB 8 127) rfl (op_assign rfl (ltn rfl)) rfl (by kernel_rfl) (by kernel_rfl) (by kernel_rfl) (by kernel_rfl) ⟨trivial, trivial, trivial⟩ (fun _ _ _ h => h) ?_
    refine VA.va (i := 7) (listed' := LB 8 255) rfl (op_assign rfl (ltn rfl)) rfl (by kernel_rfl) (by kernel_rfl) (by kernel_rfl) (by kernel_rfl) ⟨trivial, trivial, trivial⟩ (fun _ _ _ h => h) ?_
    refine VA.done (by kernel_rfl) ?_
    exact VN.meet0  [] [] trivial ⟨rfl, ⟨rfl, rfl, trivial⟩, trivial, rfl, by decide, rfl, by decide⟩
  intro _
  refine VC.ret ?_
  exact VR.fn (rs := [.tmp 2, .tmp 3]) [] [] [] rfl (.tmp rfl (.tmp rfl .nil)) ⟨rfl, rfl, rfl⟩ trivial rfl (by decide)
set_option maxHeartbeats 4000000 in
set_option maxRecDepth 100000 in
theorem stock_move_s44.ok (k : Nat) (l0 : List S32) (a1 : ByteArray) (a2 : Int) (v0 : Value) (r1 : List S32) (r2 : Int) (h : stock_move_s44.f k l0 a1 a2 = some (r1, r2)) :
    VCalls Try.prog 28 [v0, .string a1, .int .i64 a2, (.func (.func 31) #[] #[])] [.row v0 6 (l0.map enc32)] (fun v G own => ∃ w0 : Value, v = .tuple #[w0, .int .i64 r2] ∧ G = [] ∧ own = [(w0, 33, 6, r1.map enc32)]) := by
  refine VCalls.intro Try.func28 rfl (len rfl) fun E hC => ?_
  unfold stock_move_s44.f at h
  refine VC.seq ?_
  refine VC.region ?_
  refine VL.va (op_assign rfl (ltn rfl)) rfl ?_
  refine VL.va (op_assign rfl (ltn rfl)) rfl ?_
  refine VL.done ?_
  refine VN.then ?_
  refine VC.seq ?_
  refine VC.seq ?_
  refine VC.region ?_
  refine VL.va (op_move rfl (ltn rfl)) rfl ?_
  replace h := Option.bind_eq_some_iff.1 h
  obtain ⟨t2154, hA2155, h⟩ := h
  refine VL.sC (o_call0 FO9 (stock_Right.ok k l0 v0 t2154 hA2155) rfl rfl (ltn rfl) (All_of (.cons (List.mem_of_getElem? (i := 0) rfl) .nil))) rfl ?_
  rintro _ _ _ ⟨rfl, rfl, rfl⟩
  by_cases c2156 : t2154 = true
  · rw [if_pos c2156] at h
    obtain rfl := c2156
    refine VL.va (op_not rfl rfl (ltn rfl)) rfl ?_
    refine VL.va (op_move rfl (ltn rfl)) rfl ?_
    refine VL.va (op_move rfl (ltn rfl)) rfl ?_
    replace h := Option.bind_eq_some_iff.1 h
    obtain ⟨t2157, hA2158, h⟩ := h
    refine VL.sC (o_call0 FO22 (stock_units.ok a2 t2157 hA2158) rfl rfl (ltn rfl) (All_of .nil)) rfl ?_
    rintro _ _ _ ⟨rfl, rfl, rfl⟩
    by_cases c2159 : t2157 = true
    · rw [if_pos c2159] at h
      obtain rfl := c2159
      refine VL.va (op_not rfl rfl (ltn rfl)) rfl ?_
      refine VL.va (op_pick rfl rfl (ltn rfl)) rfl ?_
      refine VL.done ?_
      refine VN.then ?_
      refine VC.cond_f rfl ?_
      refine VC.skip ?_
      refine VN.then ?_
      refine VC.seq ?_
      refine VC.region ?_
      refine VL.va (op_move rfl (ltn rfl)) rfl ?_
      refine VL.va (op_move rfl (ltn rfl)) rfl ?_
      replace h := Option.bind_eq_some_iff.1 h
      obtain ⟨⟨t2160, t2161⟩, hA2162, h⟩ := h
      dsimp only at h
      refine VL.sC (o_call0 FO24 (stock_at.ok k l0 a1 v0 t2160 t2161 hA2162) rfl rfl (ltn rfl) (All_of (.cons (List.mem_of_getElem? (i := 0) rfl) .nil))) rfl ?_
      rintro _ _ _ ⟨rfl, rfl, rfl⟩
      refine VL.va (op_move rfl (ltn rfl)) rfl ?_
      refine VL.va (op_extract rfl rfl (ltn rfl)) rfl ?_
      refine VL.va (op_extract rfl rfl (ltn rfl)) rfl ?_
      refine VL.va (op_assign rfl (ltn rfl)) rfl ?_
      refine VL.va (op_assign rfl (ltn rfl)) rfl ?_
      refine VL.done ?_
      refine VN.then ?_
      refine VC.seq ?_
      refine VC.seq ?_
      refine VC.region ?_
      refine VL.va (op_move rfl (ltn rfl)) rfl ?_
      by_cases c2167 : t2161 = true
      · rw [if_pos c2167] at h
        obtain rfl := c2167
        refine VL.va (op_not rfl rfl (ltn rfl)) rfl ?_
        refine VL.done ?_
        refine VN.then ?_
        refine VC.cond_f rfl ?_
        refine VC.skip ?_
        refine VN.then ?_
        refine VC.seq ?_
        refine VC.region ?_
        refine VL.va (op_move rfl (ltn rfl)) rfl ?_
        replace h := Option.bind_eq_some_iff.1 h
        obtain ⟨r2168, hA2169, h⟩ := h
        refine VL.sC (o_call_b0 FO25 (slices_Clone_api_Row_api_Row.ok l0 v0 r2168 hA2169) rfl rfl (ltn rfl) (All_of (.cons (.inl (List.mem_of_getElem? (i := 0) rfl)) .nil)) (by rintro _ _ _ ⟨_, rfl, rfl, rfl⟩; rfl)) rfl ?_
        rintro v2171 _ _ ⟨_, rfl, rfl, rfl⟩
        refine VL.va (op_assign rfl (ltn rfl)) rfl ?_
        refine VL.done ?_
        refine VN.then ?_
        refine VC.seq ?_
        refine VC.region ?_
        refine VL.va (op_move rfl (ltn rfl)) rfl ?_
        refine VL.va (op_move rfl (ltn rfl)) rfl ?_
        refine VL.va (op_move rfl (ltn rfl)) rfl ?_
        by_cases c2172 : 0 ≤ t2160
        · rw [if_pos c2172] at h
          replace h := Option.bind_eq_some_iff.1 h
          obtain ⟨x2173, hx2173, h⟩ := h
          refine VL.openR (m := r2168.length) 0 lenm rfl (pos_get hx2173) ?_
          rintro g2174 n2175 rfl
          refine VL.va (op_indexAddr Try.underlying23 TI33 rfl rfl c2172 (lt_get c2172 hx2173) (add_zero_at _ _) (ltn rfl)) rfl ?_
          replace h := Option.bind_eq_some_iff.1 h
          obtain ⟨_, hA2176, h⟩ := h
          refine VL.sC (o_call0 FO31 (stock_Ship_1.ok (⟨g2174, t2160.toNat * 6, none⟩ : Addr) hA2176) rfl rfl (ltn rfl) (All_of .nil)) rfl ?_
          rintro _ _ _ ⟨rfl, rfl, rfl⟩
          refine VL.va (op_move rfl (ltn rfl)) rfl ?_
          refine VL.va (op_extract rfl rfl (ltn rfl)) rfl ?_
          refine VL.va (op_extract rfl rfl (ltn rfl)) rfl ?_
          refine VL.va (op_assign rfl (ltn rfl)) rfl ?_
          refine VL.va (op_assign rfl (ltn rfl)) rfl ?_
          refine VL.done ?_
          refine VN.then ?_
          refine VC.seq ?_
          refine VC.seq ?_
          refine VC.region ?_
          refine VL.va (op_move rfl (ltn rfl)) rfl ?_
          refine VL.va (op_nilCheck rfl (ltn rfl)) rfl ?_
          refine VL.va (op_load_own (sz := 6) (o := 3) 0 t2160.toNat 1 rfl rfl (get_map hx2173) TI3 rfl (by decide) (ltn rfl)) rfl ?_
          refine VL.va (op_move rfl (ltn rfl)) rfl ?_
          refine VL.letter (decide (x2173.f3 < a2)) fun b2180 hb2180 => ?_
          refine VL.va (op_cmp rfl rfl (congrArg some hb2180) (ltn rfl)) rfl ?_
          refine VL.done ?_
          refine VN.then ?_
          by_cases c2181 : x2173.f3 < a2
          · rw [if_pos c2181] at h
            obtain rfl : b2180 = true := hb2180.symm.trans (decide_eq_true c2181)
            refine VC.cond_t rfl ?_
            refine VC.seq ?_
            refine VC.region ?_
            refine VL.va (op_assign rfl (ltn rfl)) rfl ?_
            refine VL.va (op_assign rfl (ltn rfl)) rfl ?_
            refine VL.done ?_
            refine VN.then ?_
            refine VC.ret ?_
            refine VR.then ?_
            simp only [Option.some.injEq, Prod.mk.injEq] at h
            obtain ⟨rfl, rfl⟩ := h
            refine VR.nilRow' 33 6 ?_
            exact VR.fn (rs := [.tmp 8, .tmp 9]) [] [((.slice none 0 0), 33, 6, ([] : List S32).map enc32)] [0] rfl (.tmp rfl (.tmp rfl .nil)) ⟨(.slice none 0 0), rfl, rfl, rfl⟩ trivial rfl (by decide)
          · rw [if_neg c2181] at h
            obtain rfl : b2180 = false := hb2180.symm.trans (decide_eq_false c2181)
            refine VC.cond_f rfl ?_
            refine VC.skip ?_
            refine VN.then ?_
            refine VC.seq ?_
            refine VC.region ?_
            refine VL.va (op_move rfl (ltn rfl)) rfl ?_
            refine VL.va (op_nilCheck rfl (ltn rfl)) rfl ?_
            refine VL.va (op_load_own (sz := 6) (o := 3) 0 t2160.toNat 1 rfl rfl (get_map hx2173) TI3 rfl (by decide) (ltn rfl)) rfl ?_
            refine VL.va (op_move rfl (ltn rfl)) rfl ?_
            refine VL.va (op_ari64 rfl rfl rfl (ltn rfl)) rfl ?_
            refine VL.va (op_nilCheck rfl (ltn rfl)) rfl ?_
            refine VL.step1 (o_store_own (sz := 6) (o := 3) (es3 := List.map enc32 (r2168.set t2160.toNat (⟨x2173.f0, x2173.f1, x2173.f2, wrap64 (x2173.f3 - a2), x2173.f4, x2173.f5⟩ : S32))) 0 t2160.toNat 1 lenm (setm rfl) rfl rfl rfl (get_map hx2173) TI3 (.c rfl) rfl (len rfl)) rfl ?_
            refine VL.done ?_
            refine VN.then ?_
            refine VC.seq ?_
            refine VC.region ?_
            refine VL.va (op_move rfl (ltn rfl)) rfl ?_
            refine VL.va (op_nilCheck rfl (ltn rfl)) rfl ?_
            refine VL.va (op_load_own (sz := 6) (o := 4) 0 t2160.toNat 1 rfl rfl (get_map (set_get hx2173)) TI3 rfl (by decide) (ltn rfl)) rfl ?_
            refine VL.va (op_move rfl (ltn rfl)) rfl ?_
            refine VL.va (op_ari64 rfl rfl rfl (ltn rfl)) rfl ?_
            refine VL.va (op_nilCheck rfl (ltn rfl)) rfl ?_
            refine VL.step1 (o_store_own (sz := 6) (o := 4) (es3 := List.map enc32 ((r2168.set t2160.toNat (⟨x2173.f0, x2173.f1, x2173.f2, wrap64 (x2173.f3 - a2), x2173.f4, x2173.f5⟩ : S32)).set t2160.toNat (⟨x2173.f0, x2173.f1, x2173.f2, wrap64 (x2173.f3 - a2), wrap64 (x2173.f4 + a2), x2173.f5⟩ : S32))) 0 t2160.toNat 1 (by simp) (setm rfl) rfl rfl rfl (get_map (set_get hx2173)) TI3 (.c rfl) rfl (len rfl)) rfl ?_
            refine VL.done ?_
            refine VN.then ?_
            refine VC.seq ?_
            refine VC.region ?_
            refine VL.va (op_move rfl (ltn rfl)) rfl ?_
            refine VL.va (op_assign rfl (ltn rfl)) rfl ?_
            refine VL.va (op_assign rfl (ltn rfl)) rfl ?_
            refine VL.done ?_
            refine VN.then ?_
            refine VC.ret ?_
            simp only [Option.some.injEq, Prod.mk.injEq] at h
            obtain ⟨rfl, rfl⟩ := h
            exact VR.fn (rs := [.tmp 8, .tmp 9]) [] [((.slice (some ⟨g2174, 0, none⟩) r2168.length n2175), 33, 6, ((r2168.set t2160.toNat (⟨x2173.f0, x2173.f1, x2173.f2, wrap64 (x2173.f3 - a2), x2173.f4, x2173.f5⟩ : S32)).set t2160.toNat (⟨x2173.f0, x2173.f1, x2173.f2, wrap64 (x2173.f3 - a2), wrap64 (x2173.f4 + a2), x2173.f5⟩ : S32)).map enc32)] [0] rfl (.tmp rfl (.tmp rfl .nil)) ⟨(.slice (some ⟨g2174, 0, none⟩) r2168.length n2175), rfl, rfl, rfl⟩ trivial rfl (by decide)
        · rw [if_neg c2172] at h; cases h
      · rw [if_neg c2167] at h
        obtain rfl := Bool.eq_false_iff.2 c2167
        refine VL.va (op_not rfl rfl (ltn rfl)) rfl ?_
        refine VL.done ?_
        refine VN.then ?_
        refine VC.cond_t rfl ?_
        refine VC.seq ?_
        refine VC.region ?_
        refine VL.va (op_assign rfl (ltn rfl)) rfl ?_
        refine VL.va (op_assign rfl (ltn rfl)) rfl ?_
        refine VL.done ?_
        refine VN.then ?_
        refine VC.ret ?_
        refine VR.then ?_
        simp only [Option.some.injEq, Prod.mk.injEq] at h
        obtain ⟨rfl, rfl⟩ := h
        refine VR.nilRow' 33 6 ?_
        exact VR.fn (rs := [.tmp 8, .tmp 9]) [] [((.slice none 0 0), 33, 6, ([] : List S32).map enc32)] [0] rfl (.tmp rfl (.tmp rfl .nil)) ⟨(.slice none 0 0), rfl, rfl, rfl⟩ trivial rfl (by decide)
    · rw [if_neg c2159] at h
      obtain rfl := Bool.eq_false_iff.2 c2159
      refine VL.va (op_not rfl rfl (ltn rfl)) rfl ?_
      refine VL.va (op_pick rfl rfl (ltn rfl)) rfl ?_
      refine VL.done ?_
      refine VN.then ?_
      refine VC.cond_t rfl ?_
      refine VC.seq ?_
      refine VC.region ?_
      refine VL.va (op_assign rfl (ltn rfl)) rfl ?_
      refine VL.va (op_assign rfl (ltn rfl)) rfl ?_
      refine VL.done ?_
      refine VN.then ?_
      refine VC.ret ?_
      refine VR.then ?_
      simp only [Option.some.injEq, Prod.mk.injEq] at h
      obtain ⟨rfl, rfl⟩ := h
      refine VR.nilRow' 33 6 ?_
      exact VR.fn (rs := [.tmp 8, .tmp 9]) [] [((.slice none 0 0), 33, 6, ([] : List S32).map enc32)] [0] rfl (.tmp rfl (.tmp rfl .nil)) ⟨(.slice none 0 0), rfl, rfl, rfl⟩ trivial rfl (by decide)
  · rw [if_neg c2156] at h
    obtain rfl := Bool.eq_false_iff.2 c2156
    refine VL.va (op_not rfl rfl (ltn rfl)) rfl ?_
    refine VL.va (op_move rfl (ltn rfl)) rfl ?_
    refine VL.un rfl rfl (ltn rfl) ?_
    refine VL.un rfl rfl (ltn rfl) ?_
    refine VL.un rfl rfl (ltn rfl) ?_
    refine VL.va (op_pick rfl rfl (ltn rfl)) rfl ?_
    refine VL.done ?_
    refine VN.then ?_
    refine VC.cond_t rfl ?_
    refine VC.seq ?_
    refine VC.region ?_
    refine VL.va (op_assign rfl (ltn rfl)) rfl ?_
    refine VL.va (op_assign rfl (ltn rfl)) rfl ?_
    refine VL.done ?_
    refine VN.then ?_
    refine VC.ret ?_
    refine VR.then ?_
    simp only [Option.some.injEq, Prod.mk.injEq] at h
    obtain ⟨rfl, rfl⟩ := h
    refine VR.nilRow' 33 6 ?_
    exact VR.fn (rs := [.tmp 8, .tmp 9]) [] [((.slice none 0 0), 33, 6, ([] : List S32).map enc32)] [0] rfl (.tmp rfl (.tmp rfl .nil)) ⟨(.slice none 0 0), rfl, rfl, rfl⟩ trivial rfl (by decide)
set_option maxHeartbeats 4000000 in
set_option maxRecDepth 100000 in
theorem stock_Ship.ok (k : Nat) (l0 : List S32) (a1 : ByteArray) (a2 : Int) (v0 : Value) (r1 : List S32) (r2 : Int) (h : stock_Ship.f k l0 a1 a2 = some (r1, r2)) :
    VCalls Try.prog 16 [v0, .string a1, .int .i64 a2] [.row v0 6 (l0.map enc32)] (fun v G own => ∃ w0 : Value, v = .tuple #[w0, .int .i64 r2] ∧ G = [] ∧ own = [(w0, 33, 6, r1.map enc32)]) := by
  refine VCalls.intro Try.func16 rfl (len rfl) fun E hC => ?_
  unfold stock_Ship.f at h
  refine VC.seq ?_
  refine VC.region ?_
  refine VL.va (op_assign rfl (ltn rfl)) rfl ?_
  refine VL.va (op_assign rfl (ltn rfl)) rfl ?_
  refine VL.done ?_
  refine VN.then ?_
  refine VC.seq ?_
  refine VC.region ?_
  refine VL.va (op_move rfl (ltn rfl)) rfl ?_
  refine VL.va (op_move rfl (ltn rfl)) rfl ?_
  refine VL.va (op_move rfl (ltn rfl)) rfl ?_
  replace h := Option.bind_eq_some_iff.1 h
  obtain ⟨⟨r2190, t2191⟩, hA2192, h⟩ := h
  dsimp only at h
  refine VL.sC (o_call0 FO28 (stock_move_s44.ok k l0 a1 a2 v0 r2190 t2191 hA2192) rfl rfl (ltn rfl) (All_of (.cons (List.mem_of_getElem? (i := 0) rfl) .nil))) rfl ?_
  rintro _ _ _ ⟨v2194, rfl, rfl, rfl⟩
  refine VL.va (op_extract rfl rfl (ltn rfl)) rfl ?_
  refine VL.va (op_extract rfl rfl (ltn rfl)) rfl ?_
  refine VL.va (op_assign rfl (ltn rfl)) rfl ?_
  refine VL.va (op_assign rfl (ltn rfl)) rfl ?_
  refine VL.done ?_
  refine VN.then ?_
  refine VC.ret ?_
  simp only [Option.some.injEq, Prod.mk.injEq] at h
  obtain ⟨rfl, rfl⟩ := h
  exact VR.fn (rs := [.tmp 6, .tmp 7]) [] [(v2194, 33, 6, r2190.map enc32)] [0] rfl (.tmp rfl (.tmp rfl .nil)) ⟨v2194, rfl, rfl, rfl⟩ trivial rfl (by decide)
set_option maxHeartbeats 4000000 in
set_option maxRecDepth 100000 in
theorem stock_Lose_1.ok  (p0 : Addr)  (h : stock_Lose_1.f = some ()) :
    VCalls Try.prog 37 [.pointer (some p0)] [] (fun v G own => v = .tuple #[.pointer (some (p0.add 2)), .pointer (some (p0.add 5))] ∧ G = [] ∧ own = []) := by
  refine VCalls.intro Try.func37 rfl (len rfl) fun E hC => ?_
  unfold stock_Lose_1.f at h
  refine VC.seq ?_
  refine VC.region ?_
  refine VL.va (op_assign rfl (ltn rfl)) rfl ?_
  refine VL.va (op_assign rfl (ltn rfl)) rfl ?_
  refine VL.done ?_
  refine VN.then ?_
  refine VC.join0 (⟨10, [(2, .pointer (some (p0.add 2))), (3, .pointer (some (p0.add 5)))], [], [], []⟩) (True) ?_ ?_
  · refine VC.draw ⟨0, [], [], [], []⟩ (by kernel_rfl) rfl (by kernel_rfl) (n := 8) (listed := LB 8 0) ?_
    refine VA.va (i := 0) (listed' := LB 8 1) rfl (op_move rfl (ltn rfl)) rfl (by kernel_rfl) (by kernel_rfl) (by kernel_rfl) (by kernel_rfl) ⟨trivial, trivial, trivial⟩ (fun _ _ _ h => h) ?_
    refine VA.va (i := 1) (listed' := LB 8 3) rfl (op_nilCheck rfl (ltn rfl)) rfl (by kernel_rfl) (by kernel_rfl) (by kernel_rfl) (by kernel_rfl) ⟨trivial, trivial, trivial⟩ (fun _ _ _ h => h) ?_
    refine VA.va (i := 2) (listed' := LB 8 7) rfl (op_fieldAddr FI33_2 rfl rfl (ltn rfl)) rfl (by kernel_rfl) (by kernel_rfl) (by kernel_rfl) (by kernel_rfl) ⟨trivial, trivial, trivial⟩ (fun _ _ _ h => h) ?_
    refine VA.va (i := 3) (listed' := LB 8 15) rfl (op_move rfl (ltn rfl)) rfl (by kernel_rfl) (by kernel_rfl) (by kernel_rfl) (by kernel_rfl) ⟨trivial, trivial, trivial⟩ (fun _ _ _ h => h) ?_
    refine VA.va (i := 4) (listed' := LB 8 31) rfl (op_nilCheck rfl (ltn rfl)) rfl (by kernel_rfl) (by kernel_rfl) (by kernel_rfl) (by kernel_rfl) ⟨trivial, trivial, trivial⟩ (fun _ _ _ h => h) ?_
    refine VA.va (i := 5) (listed' := LB 8 63) rfl (op_fieldAddr FI33_5 rfl rfl (ltn rfl)) rfl (by kernel_rfl) (by kernel_rfl) (by kernel_rfl) (by kernel_rfl) ⟨trivial, trivial, trivial⟩ (fun _ _ _ h => h) ?_
    refine VA.va (i := 6) (listed' := LB 8 127) rfl (op_assign rfl (ltn rfl)) rfl (by kernel_rfl) (by kernel_rfl) (by kernel_rfl) (by kernel_rfl) ⟨trivial, trivial, trivial⟩ (fun _ _ _ h => h) ?_
    refine VA.va (i := 7) (listed' := LB 8 255) rfl (op_assign rfl (ltn rfl)) rfl (by kernel_rfl) (by kernel_rfl) (by kernel_rfl) (by kernel_rfl) ⟨trivial, trivial, trivial⟩ (fun _ _ _ h => h) ?_
    refine VA.done (by kernel_rfl) ?_
    exact VN.meet0  [] [] trivial ⟨rfl, ⟨rfl, rfl, trivial⟩, trivial, rfl, by decide, rfl, by decide⟩
  intro _
  refine VC.ret ?_
  exact VR.fn (rs := [.tmp 2, .tmp 3]) [] [] [] rfl (.tmp rfl (.tmp rfl .nil)) ⟨rfl, rfl, rfl⟩ trivial rfl (by decide)
set_option maxHeartbeats 4000000 in
set_option maxRecDepth 100000 in
theorem stock_move_s47.ok (k : Nat) (l0 : List S32) (a1 : ByteArray) (a2 : Int) (v0 : Value) (r1 : List S32) (r2 : Int) (h : stock_move_s47.f k l0 a1 a2 = some (r1, r2)) :
    VCalls Try.prog 28 [v0, .string a1, .int .i64 a2, (.func (.func 37) #[] #[])] [.row v0 6 (l0.map enc32)] (fun v G own => ∃ w0 : Value, v = .tuple #[w0, .int .i64 r2] ∧ G = [] ∧ own = [(w0, 33, 6, r1.map enc32)]) := by
  refine VCalls.intro Try.func28 rfl (len rfl) fun E hC => ?_
  unfold stock_move_s47.f at h
  refine VC.seq ?_
  refine VC.region ?_
  refine VL.va (op_assign rfl (ltn rfl)) rfl ?_
  refine VL.va (op_assign rfl (ltn rfl)) rfl ?_
  refine VL.done ?_
  refine VN.then ?_
  refine VC.seq ?_
  refine VC.seq ?_
  refine VC.region ?_
  refine VL.va (op_move rfl (ltn rfl)) rfl ?_
  replace h := Option.bind_eq_some_iff.1 h
  obtain ⟨t2243, hA2244, h⟩ := h
  refine VL.sC (o_call0 FO9 (stock_Right.ok k l0 v0 t2243 hA2244) rfl rfl (ltn rfl) (All_of (.cons (List.mem_of_getElem? (i := 0) rfl) .nil))) rfl ?_
  rintro _ _ _ ⟨rfl, rfl, rfl⟩
  by_cases c2245 : t2243 = true
  · rw [if_pos c2245] at h
    obtain rfl := c2245
    refine VL.va (op_not rfl rfl (ltn rfl)) rfl ?_
    refine VL.va (op_move rfl (ltn rfl)) rfl ?_
    refine VL.va (op_move rfl (ltn rfl)) rfl ?_
    replace h := Option.bind_eq_some_iff.1 h
    obtain ⟨t2246, hA2247, h⟩ := h
    refine VL.sC (o_call0 FO22 (stock_units.ok a2 t2246 hA2247) rfl rfl (ltn rfl) (All_of .nil)) rfl ?_
    rintro _ _ _ ⟨rfl, rfl, rfl⟩
    by_cases c2248 : t2246 = true
    · rw [if_pos c2248] at h
      obtain rfl := c2248
      refine VL.va (op_not rfl rfl (ltn rfl)) rfl ?_
      refine VL.va (op_pick rfl rfl (ltn rfl)) rfl ?_
      refine VL.done ?_
      refine VN.then ?_
      refine VC.cond_f rfl ?_
      refine VC.skip ?_
      refine VN.then ?_
      refine VC.seq ?_
      refine VC.region ?_
      refine VL.va (op_move rfl (ltn rfl)) rfl ?_
      refine VL.va (op_move rfl (ltn rfl)) rfl ?_
      replace h := Option.bind_eq_some_iff.1 h
      obtain ⟨⟨t2249, t2250⟩, hA2251, h⟩ := h
      dsimp only at h
      refine VL.sC (o_call0 FO24 (stock_at.ok k l0 a1 v0 t2249 t2250 hA2251) rfl rfl (ltn rfl) (All_of (.cons (List.mem_of_getElem? (i := 0) rfl) .nil))) rfl ?_
      rintro _ _ _ ⟨rfl, rfl, rfl⟩
      refine VL.va (op_move rfl (ltn rfl)) rfl ?_
      refine VL.va (op_extract rfl rfl (ltn rfl)) rfl ?_
      refine VL.va (op_extract rfl rfl (ltn rfl)) rfl ?_
      refine VL.va (op_assign rfl (ltn rfl)) rfl ?_
      refine VL.va (op_assign rfl (ltn rfl)) rfl ?_
      refine VL.done ?_
      refine VN.then ?_
      refine VC.seq ?_
      refine VC.seq ?_
      refine VC.region ?_
      refine VL.va (op_move rfl (ltn rfl)) rfl ?_
      by_cases c2256 : t2250 = true
      · rw [if_pos c2256] at h
        obtain rfl := c2256
        refine VL.va (op_not rfl rfl (ltn rfl)) rfl ?_
        refine VL.done ?_
        refine VN.then ?_
        refine VC.cond_f rfl ?_
        refine VC.skip ?_
        refine VN.then ?_
        refine VC.seq ?_
        refine VC.region ?_
        refine VL.va (op_move rfl (ltn rfl)) rfl ?_
        replace h := Option.bind_eq_some_iff.1 h
        obtain ⟨r2257, hA2258, h⟩ := h
        refine VL.sC (o_call_b0 FO25 (slices_Clone_api_Row_api_Row.ok l0 v0 r2257 hA2258) rfl rfl (ltn rfl) (All_of (.cons (.inl (List.mem_of_getElem? (i := 0) rfl)) .nil)) (by rintro _ _ _ ⟨_, rfl, rfl, rfl⟩; rfl)) rfl ?_
        rintro v2260 _ _ ⟨_, rfl, rfl, rfl⟩
        refine VL.va (op_assign rfl (ltn rfl)) rfl ?_
        refine VL.done ?_
        refine VN.then ?_
        refine VC.seq ?_
        refine VC.region ?_
        refine VL.va (op_move rfl (ltn rfl)) rfl ?_
        refine VL.va (op_move rfl (ltn rfl)) rfl ?_
        refine VL.va (op_move rfl (ltn rfl)) rfl ?_
        by_cases c2261 : 0 ≤ t2249
        · rw [if_pos c2261] at h
          replace h := Option.bind_eq_some_iff.1 h
          obtain ⟨x2262, hx2262, h⟩ := h
          refine VL.openR (m := r2257.length) 0 lenm rfl (pos_get hx2262) ?_
          rintro g2263 n2264 rfl
          refine VL.va (op_indexAddr Try.underlying23 TI33 rfl rfl c2261 (lt_get c2261 hx2262) (add_zero_at _ _) (ltn rfl)) rfl ?_
          replace h := Option.bind_eq_some_iff.1 h
          obtain ⟨_, hA2265, h⟩ := h
          refine VL.sC (o_call0 FO37 (stock_Lose_1.ok (⟨g2263, t2249.toNat * 6, none⟩ : Addr) hA2265) rfl rfl (ltn rfl) (All_of .nil)) rfl ?_
          rintro _ _ _ ⟨rfl, rfl, rfl⟩
          refine VL.va (op_move rfl (ltn rfl)) rfl ?_
          refine VL.va (op_extract rfl rfl (ltn rfl)) rfl ?_
          refine VL.va (op_extract rfl rfl (ltn rfl)) rfl ?_
          refine VL.va (op_assign rfl (ltn rfl)) rfl ?_
          refine VL.va (op_assign rfl (ltn rfl)) rfl ?_
          refine VL.done ?_
          refine VN.then ?_
          refine VC.seq ?_
          refine VC.seq ?_
          refine VC.region ?_
          refine VL.va (op_move rfl (ltn rfl)) rfl ?_
          refine VL.va (op_nilCheck rfl (ltn rfl)) rfl ?_
          refine VL.va (op_load_own (sz := 6) (o := 2) 0 t2249.toNat 1 rfl rfl (get_map hx2262) TI3 rfl (by decide) (ltn rfl)) rfl ?_
          refine VL.va (op_move rfl (ltn rfl)) rfl ?_
          refine VL.letter (decide (x2262.f2 < a2)) fun b2269 hb2269 => ?_
          refine VL.va (op_cmp rfl rfl (congrArg some hb2269) (ltn rfl)) rfl ?_
          refine VL.done ?_
          refine VN.then ?_
          by_cases c2270 : x2262.f2 < a2
          · rw [if_pos c2270] at h
            obtain rfl : b2269 = true := hb2269.symm.trans (decide_eq_true c2270)
            refine VC.cond_t rfl ?_
            refine VC.seq ?_
            refine VC.region ?_
            refine VL.va (op_assign rfl (ltn rfl)) rfl ?_
            refine VL.va (op_assign rfl (ltn rfl)) rfl ?_
            refine VL.done ?_
            refine VN.then ?_
            refine VC.ret ?_
            refine VR.then ?_
            simp only [Option.some.injEq, Prod.mk.injEq] at h
            obtain ⟨rfl, rfl⟩ := h
            refine VR.nilRow' 33 6 ?_
            exact VR.fn (rs := [.tmp 8, .tmp 9]) [] [((.slice none 0 0), 33, 6, ([] : List S32).map enc32)] [0] rfl (.tmp rfl (.tmp rfl .nil)) ⟨(.slice none 0 0), rfl, rfl, rfl⟩ trivial rfl (by decide)
          · rw [if_neg c2270] at h
            obtain rfl : b2269 = false := hb2269.symm.trans (decide_eq_false c2270)
            refine VC.cond_f rfl ?_
            refine VC.skip ?_
            refine VN.then ?_
            refine VC.seq ?_
            refine VC.region ?_
            refine VL.va (op_move rfl (ltn rfl)) rfl ?_
            refine VL.va (op_nilCheck rfl (ltn rfl)) rfl ?_
            refine VL.va (op_load_own (sz := 6) (o := 2) 0 t2249.toNat 1 rfl rfl (get_map hx2262) TI3 rfl (by decide) (ltn rfl)) rfl ?_
            refine VL.va (op_move rfl (ltn rfl)) rfl ?_
            refine VL.va (op_ari64 rfl rfl rfl (ltn rfl)) rfl ?_
            refine VL.va (op_nilCheck rfl (ltn rfl)) rfl ?_
            refine VL.step1 (o_store_own (sz := 6) (o := 2) (es3 := List.map enc32 (r2257.set t2249.toNat (⟨x2262.f0, x2262.f1, wrap64 (x2262.f2 - a2), x2262.f3, x2262.f4, x2262.f5⟩ : S32))) 0 t2249.toNat 1 lenm (setm rfl) rfl rfl rfl (get_map hx2262) TI3 (.c rfl) rfl (len rfl)) rfl ?_
            refine VL.done ?_
            refine VN.then ?_
            refine VC.seq ?_
            refine VC.region ?_
            refine VL.va (op_move rfl (ltn rfl)) rfl ?_
            refine VL.va (op_nilCheck rfl (ltn rfl)) rfl ?_
            refine VL.va (op_load_own (sz := 6) (o := 5) 0 t2249.toNat 1 rfl rfl (get_map (set_get hx2262)) TI3 rfl (by decide) (ltn rfl)) rfl ?_
            refine VL.va (op_move rfl (ltn rfl)) rfl ?_
            refine VL.va (op_ari64 rfl rfl rfl (ltn rfl)) rfl ?_
            refine VL.va (op_nilCheck rfl (ltn rfl)) rfl ?_
            refine VL.step1 (o_store_own (sz := 6) (o := 5) (es3 := List.map enc32 ((r2257.set t2249.toNat (⟨x2262.f0, x2262.f1, wrap64 (x2262.f2 - a2), x2262.f3, x2262.f4, x2262.f5⟩ : S32)).set t2249.toNat (⟨x2262.f0, x2262.f1, wrap64 (x2262.f2 - a2), x2262.f3, x2262.f4, wrap64 (x2262.f5 + a2)⟩ : S32))) 0 t2249.toNat 1 (by simp) (setm rfl) rfl rfl rfl (get_map (set_get hx2262)) TI3 (.c rfl) rfl (len rfl)) rfl ?_
            refine VL.done ?_
            refine VN.then ?_
            refine VC.seq ?_
            refine VC.region ?_
            refine VL.va (op_move rfl (ltn rfl)) rfl ?_
            refine VL.va (op_assign rfl (ltn rfl)) rfl ?_
            refine VL.va (op_assign rfl (ltn rfl)) rfl ?_
            refine VL.done ?_
            refine VN.then ?_
            refine VC.ret ?_
            simp only [Option.some.injEq, Prod.mk.injEq] at h
            obtain ⟨rfl, rfl⟩ := h
            exact VR.fn (rs := [.tmp 8, .tmp 9]) [] [((.slice (some ⟨g2263, 0, none⟩) r2257.length n2264), 33, 6, ((r2257.set t2249.toNat (⟨x2262.f0, x2262.f1, wrap64 (x2262.f2 - a2), x2262.f3, x2262.f4, x2262.f5⟩ : S32)).set t2249.toNat (⟨x2262.f0, x2262.f1, wrap64 (x2262.f2 - a2), x2262.f3, x2262.f4, wrap64 (x2262.f5 + a2)⟩ : S32)).map enc32)] [0] rfl (.tmp rfl (.tmp rfl .nil)) ⟨(.slice (some ⟨g2263, 0, none⟩) r2257.length n2264), rfl, rfl, rfl⟩ trivial rfl (by decide)
        · rw [if_neg c2261] at h; cases h
      · rw [if_neg c2256] at h
        obtain rfl := Bool.eq_false_iff.2 c2256
        refine VL.va (op_not rfl rfl (ltn rfl)) rfl ?_
        refine VL.done ?_
        refine VN.then ?_
        refine VC.cond_t rfl ?_
        refine VC.seq ?_
        refine VC.region ?_
        refine VL.va (op_assign rfl (ltn rfl)) rfl ?_
        refine VL.va (op_assign rfl (ltn rfl)) rfl ?_
        refine VL.done ?_
        refine VN.then ?_
        refine VC.ret ?_
        refine VR.then ?_
        simp only [Option.some.injEq, Prod.mk.injEq] at h
        obtain ⟨rfl, rfl⟩ := h
        refine VR.nilRow' 33 6 ?_
        exact VR.fn (rs := [.tmp 8, .tmp 9]) [] [((.slice none 0 0), 33, 6, ([] : List S32).map enc32)] [0] rfl (.tmp rfl (.tmp rfl .nil)) ⟨(.slice none 0 0), rfl, rfl, rfl⟩ trivial rfl (by decide)
    · rw [if_neg c2248] at h
      obtain rfl := Bool.eq_false_iff.2 c2248
      refine VL.va (op_not rfl rfl (ltn rfl)) rfl ?_
      refine VL.va (op_pick rfl rfl (ltn rfl)) rfl ?_
      refine VL.done ?_
      refine VN.then ?_
      refine VC.cond_t rfl ?_
      refine VC.seq ?_
      refine VC.region ?_
      refine VL.va (op_assign rfl (ltn rfl)) rfl ?_
      refine VL.va (op_assign rfl (ltn rfl)) rfl ?_
      refine VL.done ?_
      refine VN.then ?_
      refine VC.ret ?_
      refine VR.then ?_
      simp only [Option.some.injEq, Prod.mk.injEq] at h
      obtain ⟨rfl, rfl⟩ := h
      refine VR.nilRow' 33 6 ?_
      exact VR.fn (rs := [.tmp 8, .tmp 9]) [] [((.slice none 0 0), 33, 6, ([] : List S32).map enc32)] [0] rfl (.tmp rfl (.tmp rfl .nil)) ⟨(.slice none 0 0), rfl, rfl, rfl⟩ trivial rfl (by decide)
  · rw [if_neg c2245] at h
    obtain rfl := Bool.eq_false_iff.2 c2245
    refine VL.va (op_not rfl rfl (ltn rfl)) rfl ?_
    refine VL.va (op_move rfl (ltn rfl)) rfl ?_
    refine VL.un rfl rfl (ltn rfl) ?_
    refine VL.un rfl rfl (ltn rfl) ?_
    refine VL.un rfl rfl (ltn rfl) ?_
    refine VL.va (op_pick rfl rfl (ltn rfl)) rfl ?_
    refine VL.done ?_
    refine VN.then ?_
    refine VC.cond_t rfl ?_
    refine VC.seq ?_
    refine VC.region ?_
    refine VL.va (op_assign rfl (ltn rfl)) rfl ?_
    refine VL.va (op_assign rfl (ltn rfl)) rfl ?_
    refine VL.done ?_
    refine VN.then ?_
    refine VC.ret ?_
    refine VR.then ?_
    simp only [Option.some.injEq, Prod.mk.injEq] at h
    obtain ⟨rfl, rfl⟩ := h
    refine VR.nilRow' 33 6 ?_
    exact VR.fn (rs := [.tmp 8, .tmp 9]) [] [((.slice none 0 0), 33, 6, ([] : List S32).map enc32)] [0] rfl (.tmp rfl (.tmp rfl .nil)) ⟨(.slice none 0 0), rfl, rfl, rfl⟩ trivial rfl (by decide)
set_option maxHeartbeats 4000000 in
set_option maxRecDepth 100000 in
theorem stock_Lose.ok (k : Nat) (l0 : List S32) (a1 : ByteArray) (a2 : Int) (v0 : Value) (r1 : List S32) (r2 : Int) (h : stock_Lose.f k l0 a1 a2 = some (r1, r2)) :
    VCalls Try.prog 21 [v0, .string a1, .int .i64 a2] [.row v0 6 (l0.map enc32)] (fun v G own => ∃ w0 : Value, v = .tuple #[w0, .int .i64 r2] ∧ G = [] ∧ own = [(w0, 33, 6, r1.map enc32)]) := by
  refine VCalls.intro Try.func21 rfl (len rfl) fun E hC => ?_
  unfold stock_Lose.f at h
  refine VC.seq ?_
  refine VC.region ?_
  refine VL.va (op_assign rfl (ltn rfl)) rfl ?_
  refine VL.va (op_assign rfl (ltn rfl)) rfl ?_
  refine VL.done ?_
  refine VN.then ?_
  refine VC.seq ?_
  refine VC.region ?_
  refine VL.va (op_move rfl (ltn rfl)) rfl ?_
  refine VL.va (op_move rfl (ltn rfl)) rfl ?_
  refine VL.va (op_move rfl (ltn rfl)) rfl ?_
  replace h := Option.bind_eq_some_iff.1 h
  obtain ⟨⟨r2279, t2280⟩, hA2281, h⟩ := h
  dsimp only at h
  refine VL.sC (o_call0 FO28 (stock_move_s47.ok k l0 a1 a2 v0 r2279 t2280 hA2281) rfl rfl (ltn rfl) (All_of (.cons (List.mem_of_getElem? (i := 0) rfl) .nil))) rfl ?_
  rintro _ _ _ ⟨v2283, rfl, rfl, rfl⟩
  refine VL.va (op_extract rfl rfl (ltn rfl)) rfl ?_
  refine VL.va (op_extract rfl rfl (ltn rfl)) rfl ?_
  refine VL.va (op_assign rfl (ltn rfl)) rfl ?_
  refine VL.va (op_assign rfl (ltn rfl)) rfl ?_
  refine VL.done ?_
  refine VN.then ?_
  refine VC.ret ?_
  simp only [Option.some.injEq, Prod.mk.injEq] at h
  obtain ⟨rfl, rfl⟩ := h
  exact VR.fn (rs := [.tmp 6, .tmp 7]) [] [(v2283, 33, 6, r2279.map enc32)] [0] rfl (.tmp rfl (.tmp rfl .nil)) ⟨v2283, rfl, rfl, rfl⟩ trivial rfl (by decide)

end Go.Proofs.Ytibpoajlnloloaa.PStockApart
