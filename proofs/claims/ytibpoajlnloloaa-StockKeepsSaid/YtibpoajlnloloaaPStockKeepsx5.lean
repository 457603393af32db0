/- Written by a program of this repo: what the program's functions do, each as a Lean function, shown of the loaded code; or a statement's row over that; no condition of its own. -/
import Derived.Test.YtibpoajlnloloaaPStockKeepsx4
namespace Go.Proofs.Ytibpoajlnloloaa.PStockKeeps
open Go Go.RowKit Go.Proofs.YtibpoajlnloloaaV
set_option linter.unusedVariables false
set_option linter.unusedSimpArgs false

set_option maxHeartbeats 4000000 in
set_option maxRecDepth 100000 in
theorem stock_move_s43.ok (k : Nat) (l0 : List S32) (a1 : ByteArray) (a2 : Int) (v0 : Value) (r1 : List S32) (r2 : Int) (h : stock_move_s43.f k l0 a1 a2 = some (r1, r2)) :
    VCalls Try.prog 28 [v0, .string a1, .int .i64 a2, (.func (.func 37) #[] #[])] [.row v0 6 (l0.map enc32)] (fun v G own => ∃ w0 : Value, v = .tuple #[w0, .int .i64 r2] ∧ G = [] ∧ own = [(w0, 33, 6, r1.map enc32)]) := by
  refine VCalls.intro Try.func28 rfl (len rfl) fun E hC hW hD hU => ?_
  unfold stock_move_s43.f at h
  refine VC.seq ?_
  refine VC.region ?_
  refine VL.va (op_assign rfl (ltn rfl)) rfl ?_
  refine VL.va (op_assign rfl (ltn rfl)) rfl ?_
  refine VL.done ?_
  refine VN.then ?_
  refine VC.seq ?_
  refine VC.seq ?_
  refine VC.region ?_
  refine VL.va (op_move rfl (ltn rfl)) rfl ?_
  replace h := Option.bind_eq_some_iff.1 h
  obtain ⟨t1973, hA1974, h⟩ := h
  refine VL.sC (o_call0 FO9 (stock_Right.ok k l0 v0 t1973 hA1974) rfl rfl (ltn rfl) (All_of (.cons (List.mem_of_getElem? (i := 0) rfl) .nil))) rfl ?_
  rintro _ _ _ ⟨rfl, rfl, rfl⟩
  by_cases c1975 : t1973 = true
  · rw [if_pos c1975] at h
    obtain rfl := c1975
    refine VL.va (op_not rfl rfl (ltn rfl)) rfl ?_
    refine VL.va (op_move rfl (ltn rfl)) rfl ?_
    refine VL.va (op_move rfl (ltn rfl)) rfl ?_
    replace h := Option.bind_eq_some_iff.1 h
    obtain ⟨t1976, hA1977, h⟩ := h
    refine VL.sC (o_call0 FO22 (stock_units.ok a2 t1976 hA1977) rfl rfl (ltn rfl) (All_of .nil)) rfl ?_
    rintro _ _ _ ⟨rfl, rfl, rfl⟩
    by_cases c1978 : t1976 = true
    · rw [if_pos c1978] at h
      obtain rfl := c1978
      refine VL.va (op_not rfl rfl (ltn rfl)) rfl ?_
      refine VL.va (op_pick rfl rfl (ltn rfl)) rfl ?_
      refine VL.done ?_
      refine VN.then ?_
      refine VC.cond_f rfl ?_
      refine VC.skip ?_
      refine VN.then ?_
      refine VC.seq ?_
      refine VC.region ?_
      refine VL.va (op_move rfl (ltn rfl)) rfl ?_
      refine VL.va (op_move rfl (ltn rfl)) rfl ?_
      replace h := Option.bind_eq_some_iff.1 h
      obtain ⟨⟨t1979, t1980⟩, hA1981, h⟩ := h
      dsimp only at h
      refine VL.sC (o_call0 FO24 (stock_at.ok k l0 a1 v0 t1979 t1980 hA1981) rfl rfl (ltn rfl) (All_of (.cons (List.mem_of_getElem? (i := 0) rfl) .nil))) rfl ?_
      rintro _ _ _ ⟨rfl, rfl, rfl⟩
      refine VL.va (op_move rfl (ltn rfl)) rfl ?_
      refine VL.va (op_extract rfl rfl (ltn rfl)) rfl ?_
      refine VL.va (op_extract rfl rfl (ltn rfl)) rfl ?_
      refine VL.va (op_assign rfl (ltn rfl)) rfl ?_
      refine VL.va (op_assign rfl (ltn rfl)) rfl ?_
      refine VL.done ?_
      refine VN.then ?_
      refine VC.seq ?_
      refine VC.seq ?_
      refine VC.region ?_
      refine VL.va (op_move rfl (ltn rfl)) rfl ?_
      by_cases c1986 : t1980 = true
      · rw [if_pos c1986] at h
        obtain rfl := c1986
        refine VL.va (op_not rfl rfl (ltn rfl)) rfl ?_
        refine VL.done ?_
        refine VN.then ?_
        refine VC.cond_f rfl ?_
        refine VC.skip ?_
        refine VN.then ?_
        refine VC.seq ?_
        refine VC.region ?_
        refine VL.va (op_move rfl (ltn rfl)) rfl ?_
        replace h := Option.bind_eq_some_iff.1 h
        obtain ⟨r1987, hA1988, h⟩ := h
        refine VL.sC (o_call_b0 FO25 (slices_Clone_api_Row_api_Row.ok l0 v0 r1987 hA1988) rfl rfl (ltn rfl) (All_of (.cons (.inl (List.mem_of_getElem? (i := 0) rfl)) .nil)) (by rintro _ _ _ ⟨_, rfl, rfl, rfl⟩; rfl)) rfl ?_
        rintro v1990 _ _ ⟨_, rfl, rfl, rfl⟩
        refine VL.va (op_assign rfl (ltn rfl)) rfl ?_
        refine VL.done ?_
        refine VN.then ?_
        refine VC.seq ?_
        refine VC.region ?_
        refine VL.va (op_move rfl (ltn rfl)) rfl ?_
        refine VL.va (op_move rfl (ltn rfl)) rfl ?_
        refine VL.va (op_move rfl (ltn rfl)) rfl ?_
        by_cases c1991 : 0 ≤ t1979
        · rw [if_pos c1991] at h
          replace h := Option.bind_eq_some_iff.1 h
          obtain ⟨x1992, hx1992, h⟩ := h
          refine VL.openR (m := r1987.length) 0 lenm rfl (pos_get hx1992) ?_
          rintro g1993 n1994 rfl
          refine VL.va (op_indexAddr Try.underlying23 TI33 rfl rfl c1991 (lt_get c1991 hx1992) (add_zero_at _ _) (ltn rfl)) rfl ?_
          replace h := Option.bind_eq_some_iff.1 h
          obtain ⟨_, hA1995, h⟩ := h
          refine VL.sC (o_call0 FO37 (stock_Lose_1.ok (⟨g1993, t1979.toNat * 6, none⟩ : Addr) hA1995) rfl rfl (ltn rfl) (All_of .nil)) rfl ?_
          rintro _ _ _ ⟨rfl, rfl, rfl⟩
          refine VL.va (op_move rfl (ltn rfl)) rfl ?_
          refine VL.va (op_extract rfl rfl (ltn rfl)) rfl ?_
          refine VL.va (op_extract rfl rfl (ltn rfl)) rfl ?_
          refine VL.va (op_assign rfl (ltn rfl)) rfl ?_
          refine VL.va (op_assign rfl (ltn rfl)) rfl ?_
          refine VL.done ?_
          refine VN.then ?_
          refine VC.seq ?_
          refine VC.seq ?_
          refine VC.region ?_
          refine VL.va (op_move rfl (ltn rfl)) rfl ?_
          refine VL.va (op_nilCheck rfl (ltn rfl)) rfl ?_
          refine VL.va (op_load_own (sz := 6) (o := 2) 0 t1979.toNat 1 rfl rfl (get_map hx1992) TI3 rfl (by decide) (ltn rfl)) rfl ?_
          refine VL.va (op_move rfl (ltn rfl)) rfl ?_
          refine VL.letter (decide (x1992.f2 < a2)) fun b1999 hb1999 => ?_
          refine VL.va (op_cmp rfl rfl (congrArg some hb1999) (ltn rfl)) rfl ?_
          refine VL.done ?_
          refine VN.then ?_
          by_cases c2000 : x1992.f2 < a2
          · rw [if_pos c2000] at h
            obtain rfl : b1999 = true := hb1999.symm.trans (decide_eq_true c2000)
            refine VC.cond_t rfl ?_
            refine VC.seq ?_
            refine VC.region ?_
            refine VL.va (op_assign rfl (ltn rfl)) rfl ?_
            refine VL.va (op_assign rfl (ltn rfl)) rfl ?_
            refine VL.done ?_
            refine VN.then ?_
            refine VC.ret ?_
            refine VR.then ?_
            simp only [Option.some.injEq, Prod.mk.injEq] at h
            obtain ⟨rfl, rfl⟩ := h
            refine VR.nilRow' 33 6 ?_
            exact VR.fn (rs := [.tmp 8, .tmp 9]) [] [((.slice none 0 0), 33, 6, ([] : List S32).map enc32)] [0] rfl (.tmp rfl (.tmp rfl .nil)) ⟨(.slice none 0 0), rfl, rfl, rfl⟩ trivial rfl (by decide)
          · rw [if_neg c2000] at h
            obtain rfl : b1999 = false := hb1999.symm.trans (decide_eq_false c2000)
            refine VC.cond_f rfl ?_
            refine VC.skip ?_
            refine VN.then ?_
            refine VC.seq ?_
            refine VC.region ?_
            refine VL.va (op_move rfl (ltn rfl)) rfl ?_
            refine VL.va (op_nilCheck rfl (ltn rfl)) rfl ?_
            refine VL.va (op_load_own (sz := 6) (o := 2) 0 t1979.toNat 1 rfl rfl (get_map hx1992) TI3 rfl (by decide) (ltn rfl)) rfl ?_
            refine VL.va (op_move rfl (ltn rfl)) rfl ?_
            refine VL.va (op_ari64 rfl rfl rfl (ltn rfl)) rfl ?_
            refine VL.va (op_nilCheck rfl (ltn rfl)) rfl ?_
            refine VL.step1 (o_store_own (sz := 6) (o := 2) (es3 := List.map enc32 (r1987.set t1979.toNat (⟨x1992.f0, x1992.f1, wrap64 (x1992.f2 - a2), x1992.f3, x1992.f4, x1992.f5⟩ : S32))) 0 t1979.toNat 1 lenm (setm rfl) rfl rfl rfl (get_map hx1992) TI3 (.c rfl) rfl (len rfl)) rfl ?_
            refine VL.done ?_
            refine VN.then ?_
            refine VC.seq ?_
            refine VC.region ?_
            refine VL.va (op_move rfl (ltn rfl)) rfl ?_
            refine VL.va (op_nilCheck rfl (ltn rfl)) rfl ?_
            refine VL.va (op_load_own (sz := 6) (o := 5) 0 t1979.toNat 1 rfl rfl (get_map (set_get hx1992)) TI3 rfl (by decide) (ltn rfl)) rfl ?_
            refine VL.va (op_move rfl (ltn rfl)) rfl ?_
            refine VL.va (op_ari64 rfl rfl rfl (ltn rfl)) rfl ?_
            refine VL.va (op_nilCheck rfl (ltn rfl)) rfl ?_
            refine VL.step1 (o_store_own (sz := 6) (o := 5) (es3 := List.map enc32 ((r1987.set t1979.toNat (⟨x1992.f0, x1992.f1, wrap64 (x1992.f2 - a2), x1992.f3, x1992.f4, x1992.f5⟩ : S32)).set t1979.toNat (⟨x1992.f0, x1992.f1, wrap64 (x1992.f2 - a2), x1992.f3, x1992.f4, wrap64 (x1992.f5 + a2)⟩ : S32))) 0 t1979.toNat 1 (by simp) (setm rfl) rfl rfl rfl (get_map (set_get hx1992)) TI3 (.c rfl) rfl (len rfl)) rfl ?_
            refine VL.done ?_
            refine VN.then ?_
            refine VC.seq ?_
            refine VC.region ?_
            refine VL.va (op_move rfl (ltn rfl)) rfl ?_
            refine VL.va (op_assign rfl (ltn rfl)) rfl ?_
            refine VL.va (op_assign rfl (ltn rfl)) rfl ?_
            refine VL.done ?_
            refine VN.then ?_
            refine VC.ret ?_
            simp only [Option.some.injEq, Prod.mk.injEq] at h
            obtain ⟨rfl, rfl⟩ := h
            exact VR.fn (rs := [.tmp 8, .tmp 9]) [] [((.slice (some ⟨g1993, 0, none⟩) r1987.length n1994), 33, 6, ((r1987.set t1979.toNat (⟨x1992.f0, x1992.f1, wrap64 (x1992.f2 - a2), x1992.f3, x1992.f4, x1992.f5⟩ : S32)).set t1979.toNat (⟨x1992.f0, x1992.f1, wrap64 (x1992.f2 - a2), x1992.f3, x1992.f4, wrap64 (x1992.f5 + a2)⟩ : S32)).map enc32)] [0] rfl (.tmp rfl (.tmp rfl .nil)) ⟨(.slice (some ⟨g1993, 0, none⟩) r1987.length n1994), rfl, rfl, rfl⟩ trivial rfl (by decide)
        · rw [if_neg c1991] at h; cases h
      · rw [if_neg c1986] at h
        obtain rfl := Bool.eq_false_iff.2 c1986
        refine VL.va (op_not rfl rfl (ltn rfl)) rfl ?_
        refine VL.done ?_
        refine VN.then ?_
        refine VC.cond_t rfl ?_
        refine VC.seq ?_
        refine VC.region ?_
        refine VL.va (op_assign rfl (ltn rfl)) rfl ?_
        refine VL.va (op_assign rfl (ltn rfl)) rfl ?_
        refine VL.done ?_
        refine VN.then ?_
        refine VC.ret ?_
        refine VR.then ?_
        simp only [Option.some.injEq, Prod.mk.injEq] at h
        obtain ⟨rfl, rfl⟩ := h
        refine VR.nilRow' 33 6 ?_
        exact VR.fn (rs := [.tmp 8, .tmp 9]) [] [((.slice none 0 0), 33, 6, ([] : List S32).map enc32)] [0] rfl (.tmp rfl (.tmp rfl .nil)) ⟨(.slice none 0 0), rfl, rfl, rfl⟩ trivial rfl (by decide)
    · rw [if_neg c1978] at h
      obtain rfl := Bool.eq_false_iff.2 c1978
      refine VL.va (op_not rfl rfl (ltn rfl)) rfl ?_
      refine VL.va (op_pick rfl rfl (ltn rfl)) rfl ?_
      refine VL.done ?_
      refine VN.then ?_
      refine VC.cond_t rfl ?_
      refine VC.seq ?_
      refine VC.region ?_
      refine VL.va (op_assign rfl (ltn rfl)) rfl ?_
      refine VL.va (op_assign rfl (ltn rfl)) rfl ?_
      refine VL.done ?_
      refine VN.then ?_
      refine VC.ret ?_
      refine VR.then ?_
      simp only [Option.some.injEq, Prod.mk.injEq] at h
      obtain ⟨rfl, rfl⟩ := h
      refine VR.nilRow' 33 6 ?_
      exact VR.fn (rs := [.tmp 8, .tmp 9]) [] [((.slice none 0 0), 33, 6, ([] : List S32).map enc32)] [0] rfl (.tmp rfl (.tmp rfl .nil)) ⟨(.slice none 0 0), rfl, rfl, rfl⟩ trivial rfl (by decide)
  · rw [if_neg c1975] at h
    obtain rfl := Bool.eq_false_iff.2 c1975
    refine VL.va (op_not rfl rfl (ltn rfl)) rfl ?_
    refine VL.va (op_move rfl (ltn rfl)) rfl ?_
    refine VL.un rfl rfl (ltn rfl) ?_
    refine VL.un rfl rfl (ltn rfl) ?_
    refine VL.un rfl rfl (ltn rfl) ?_
    refine VL.va (op_pick rfl rfl (ltn rfl)) rfl ?_
    refine VL.done ?_
    refine VN.then ?_
    refine VC.cond_t rfl ?_
    refine VC.seq ?_
    refine VC.region ?_
    refine VL.va (op_assign rfl (ltn rfl)) rfl ?_
    refine VL.va (op_assign rfl (ltn rfl)) rfl ?_
    refine VL.done ?_
    refine VN.then ?_
    refine VC.ret ?_
    refine VR.then ?_
    simp only [Option.some.injEq, Prod.mk.injEq] at h
    obtain ⟨rfl, rfl⟩ := h
    refine VR.nilRow' 33 6 ?_
    exact VR.fn (rs := [.tmp 8, .tmp 9]) [] [((.slice none 0 0), 33, 6, ([] : List S32).map enc32)] [0] rfl (.tmp rfl (.tmp rfl .nil)) ⟨(.slice none 0 0), rfl, rfl, rfl⟩ trivial rfl (by decide)
set_option maxHeartbeats 4000000 in
set_option maxRecDepth 100000 in
theorem stock_Lose.ok (k : Nat) (l0 : List S32) (a1 : ByteArray) (a2 : Int) (v0 : Value) (r1 : List S32) (r2 : Int) (h : stock_Lose.f k l0 a1 a2 = some (r1, r2)) :
    VCalls Try.prog 21 [v0, .string a1, .int .i64 a2] [.row v0 6 (l0.map enc32)] (fun v G own => ∃ w0 : Value, v = .tuple #[w0, .int .i64 r2] ∧ G = [] ∧ own = [(w0, 33, 6, r1.map enc32)]) := by
  refine VCalls.intro Try.func21 rfl (len rfl) fun E hC hW hD hU => ?_
  unfold stock_Lose.f at h
  refine VC.seq ?_
  refine VC.region ?_
  refine VL.va (op_assign rfl (ltn rfl)) rfl ?_
  refine VL.va (op_assign rfl (ltn rfl)) rfl ?_
  refine VL.done ?_
  refine VN.then ?_
  refine VC.seq ?_
  refine VC.region ?_
  refine VL.va (op_move rfl (ltn rfl)) rfl ?_
  refine VL.va (op_move rfl (ltn rfl)) rfl ?_
  refine VL.va (op_move rfl (ltn rfl)) rfl ?_
  replace h := Option.bind_eq_some_iff.1 h
  obtain ⟨⟨r2009, t2010⟩, hA2011, h⟩ := h
  dsimp only at h
  refine VL.sC (o_call0 FO28 (stock_move_s43.ok k l0 a1 a2 v0 r2009 t2010 hA2011) rfl rfl (ltn rfl) (All_of (.cons (List.mem_of_getElem? (i := 0) rfl) .nil))) rfl ?_
  rintro _ _ _ ⟨v2013, rfl, rfl, rfl⟩
  refine VL.va (op_extract rfl rfl (ltn rfl)) rfl ?_
  refine VL.va (op_extract rfl rfl (ltn rfl)) rfl ?_
  refine VL.va (op_assign rfl (ltn rfl)) rfl ?_
  refine VL.va (op_assign rfl (ltn rfl)) rfl ?_
  refine VL.done ?_
  refine VN.then ?_
  refine VC.ret ?_
  simp only [Option.some.injEq, Prod.mk.injEq] at h
  obtain ⟨rfl, rfl⟩ := h
  exact VR.fn (rs := [.tmp 6, .tmp 7]) [] [(v2013, 33, 6, r2009.map enc32)] [0] rfl (.tmp rfl (.tmp rfl .nil)) ⟨v2013, rfl, rfl, rfl⟩ trivial rfl (by decide)
set_option maxHeartbeats 4000000 in
set_option maxRecDepth 100000 in
theorem tarrylaw08_does.ok (k : Nat) (l0 : List S32) (a1 : ByteArray) (a2 : Int) (a3 : Int) (v0 : Value) (r1 : List S32) (r2 : Int) (h : tarrylaw08_does.f k l0 a1 a2 a3 = some (r1, r2)) :
    VCalls Try.prog 7 [v0, .string a1, .int .i64 a2, .int .i64 a3] [.row v0 6 (l0.map enc32)] (fun v G own => ∃ w0 : Value, v = .tuple #[w0, .int .i64 r2] ∧ G = [] ∧ own = [(w0, 33, 6, r1.map enc32)]) := by
  refine VCalls.intro Try.func7 rfl (len rfl) fun E hC hW hD hU => ?_
  unfold tarrylaw08_does.f at h
  refine VC.seq ?_
  refine VC.region ?_
  refine VL.va (op_assign rfl (ltn rfl)) rfl ?_
  refine VL.va (op_assign rfl (ltn rfl)) rfl ?_
  refine VL.done ?_
  refine VN.then ?_
  refine VC.seq ?_
  refine VC.seq ?_
  refine VC.region ?_
  refine VL.va (op_move rfl (ltn rfl)) rfl ?_
  refine VL.done ?_
  refine VN.then ?_
  refine VC.block ?_
  refine VC.seq ?_
  refine VC.region ?_
  refine VL.letter ((a3 == 1)) fun b1930 hb1930 => ?_
  refine VL.va (op_cmp rfl rfl (congrArg some hb1930) (ltn rfl)) rfl ?_
  refine VL.va (op_assign rfl (ltn rfl)) rfl ?_
  refine VL.done ?_
  refine VN.then ?_
  by_cases c1931 : a3 = 1
  · rw [if_pos c1931] at h
    obtain rfl : b1930 = true := hb1930.symm.trans (beq_iff_eq.2 c1931)
    refine VC.cond_t rfl ?_
    refine VC.seq ?_
    refine VC.region ?_
    refine VL.va (op_move rfl (ltn rfl)) rfl ?_
    refine VL.va (op_move rfl (ltn rfl)) rfl ?_
    refine VL.va (op_move rfl (ltn rfl)) rfl ?_
    replace h := Option.bind_eq_some_iff.1 h
    obtain ⟨⟨r1932, t1933⟩, hA1934, h⟩ := h
    dsimp only at h
    refine VL.sC (o_call0 FO13 (stock_Hold.ok k l0 a1 a2 v0 r1932 t1933 hA1934) rfl rfl (ltn rfl) (All_of (.cons (List.mem_of_getElem? (i := 0) rfl) .nil))) rfl ?_
    rintro _ _ _ ⟨v1936, rfl, rfl, rfl⟩
    refine VL.va (op_extract rfl rfl (ltn rfl)) rfl ?_
    refine VL.va (op_extract rfl rfl (ltn rfl)) rfl ?_
    refine VL.va (op_assign rfl (ltn rfl)) rfl ?_
    refine VL.va (op_assign rfl (ltn rfl)) rfl ?_
    refine VL.done ?_
    refine VN.then ?_
    refine VC.ret ?_
    refine VR.block ?_
    refine VR.then ?_
    simp only [Option.some.injEq, Prod.mk.injEq] at h
    obtain ⟨rfl, rfl⟩ := h
    exact VR.fn (rs := [.tmp 8, .tmp 9]) [] [(v1936, 33, 6, r1932.map enc32)] [0] rfl (.tmp rfl (.tmp rfl .nil)) ⟨v1936, rfl, rfl, rfl⟩ trivial rfl (by decide)
  · rw [if_neg c1931] at h
    obtain rfl : b1930 = false := hb1930.symm.trans (beq_eq_false_iff_ne.2 c1931)
    refine VC.cond_f rfl ?_
    refine VC.seq ?_
    refine VC.region ?_
    refine VL.letter ((a3 == 2)) fun b1937 hb1937 => ?_
    refine VL.va (op_cmp rfl rfl (congrArg some hb1937) (ltn rfl)) rfl ?_
    refine VL.va (op_assign rfl (ltn rfl)) rfl ?_
    refine VL.done ?_
    refine VN.then ?_
    by_cases c1938 : a3 = 2
    · rw [if_pos c1938] at h
      obtain rfl : b1937 = true := hb1937.symm.trans (beq_iff_eq.2 c1938)
      refine VC.cond_t rfl ?_
      refine VC.seq ?_
      refine VC.region ?_
      refine VL.va (op_move rfl (ltn rfl)) rfl ?_
      refine VL.va (op_move rfl (ltn rfl)) rfl ?_
      refine VL.va (op_move rfl (ltn rfl)) rfl ?_
      replace h := Option.bind_eq_some_iff.1 h
      obtain ⟨⟨r1939, t1940⟩, hA1941, h⟩ := h
      dsimp only at h
      refine VL.sC (o_call0 FO15 (stock_Release.ok k l0 a1 a2 v0 r1939 t1940 hA1941) rfl rfl (ltn rfl) (All_of (.cons (List.mem_of_getElem? (i := 0) rfl) .nil))) rfl ?_
      rintro _ _ _ ⟨v1943, rfl, rfl, rfl⟩
      refine VL.va (op_extract rfl rfl (ltn rfl)) rfl ?_
      refine VL.va (op_extract rfl rfl (ltn rfl)) rfl ?_
      refine VL.va (op_assign rfl (ltn rfl)) rfl ?_
      refine VL.va (op_assign rfl (ltn rfl)) rfl ?_
      refine VL.done ?_
      refine VN.then ?_
      refine VC.ret ?_
      refine VR.block ?_
      refine VR.then ?_
      simp only [Option.some.injEq, Prod.mk.injEq] at h
      obtain ⟨rfl, rfl⟩ := h
      exact VR.fn (rs := [.tmp 8, .tmp 9]) [] [(v1943, 33, 6, r1939.map enc32)] [0] rfl (.tmp rfl (.tmp rfl .nil)) ⟨v1943, rfl, rfl, rfl⟩ trivial rfl (by decide)
    · rw [if_neg c1938] at h
      obtain rfl : b1937 = false := hb1937.symm.trans (beq_eq_false_iff_ne.2 c1938)
      refine VC.cond_f rfl ?_
      refine VC.seq ?_
      refine VC.region ?_
      refine VL.letter ((a3 == 3)) fun b1944 hb1944 => ?_
      refine VL.va (op_cmp rfl rfl (congrArg some hb1944) (ltn rfl)) rfl ?_
      refine VL.va (op_assign rfl (ltn rfl)) rfl ?_
      refine VL.done ?_
      refine VN.then ?_
      by_cases c1945 : a3 = 3
      · rw [if_pos c1945] at h
        obtain rfl : b1944 = true := hb1944.symm.trans (beq_iff_eq.2 c1945)
        refine VC.cond_t rfl ?_
        refine VC.seq ?_
        refine VC.region ?_
        refine VL.va (op_move rfl (ltn rfl)) rfl ?_
        refine VL.va (op_move rfl (ltn rfl)) rfl ?_
        refine VL.va (op_move rfl (ltn rfl)) rfl ?_
        replace h := Option.bind_eq_some_iff.1 h
        obtain ⟨⟨r1946, t1947⟩, hA1948, h⟩ := h
        dsimp only at h
        refine VL.sC (o_call0 FO16 (stock_Ship.ok k l0 a1 a2 v0 r1946 t1947 hA1948) rfl rfl (ltn rfl) (All_of (.cons (List.mem_of_getElem? (i := 0) rfl) .nil))) rfl ?_
        rintro _ _ _ ⟨v1950, rfl, rfl, rfl⟩
        refine VL.va (op_extract rfl rfl (ltn rfl)) rfl ?_
        refine VL.va (op_extract rfl rfl (ltn rfl)) rfl ?_
        refine VL.va (op_assign rfl (ltn rfl)) rfl ?_
        refine VL.va (op_assign rfl (ltn rfl)) rfl ?_
        refine VL.done ?_
        refine VN.then ?_
        refine VC.ret ?_
        refine VR.block ?_
        refine VR.then ?_
        simp only [Option.some.injEq, Prod.mk.injEq] at h
        obtain ⟨rfl, rfl⟩ := h
        exact VR.fn (rs := [.tmp 8, .tmp 9]) [] [(v1950, 33, 6, r1946.map enc32)] [0] rfl (.tmp rfl (.tmp rfl .nil)) ⟨v1950, rfl, rfl, rfl⟩ trivial rfl (by decide)
      · rw [if_neg c1945] at h
        obtain rfl : b1944 = false := hb1944.symm.trans (beq_eq_false_iff_ne.2 c1945)
        refine VC.cond_f rfl ?_
        refine VC.skip ?_
        refine VN.block ?_
        refine VN.then ?_
        refine VC.seq ?_
        refine VC.region ?_
        refine VL.va (op_move rfl (ltn rfl)) rfl ?_
        refine VL.va (op_move rfl (ltn rfl)) rfl ?_
        refine VL.va (op_move rfl (ltn rfl)) rfl ?_
        replace h := Option.bind_eq_some_iff.1 h
        obtain ⟨⟨r2014, t2015⟩, hA2016, h⟩ := h
        dsimp only at h
        refine VL.sC (o_call0 FO21 (stock_Lose.ok k l0 a1 a2 v0 r2014 t2015 hA2016) rfl rfl (ltn rfl) (All_of (.cons (List.mem_of_getElem? (i := 0) rfl) .nil))) rfl ?_
        rintro _ _ _ ⟨v2018, rfl, rfl, rfl⟩
        refine VL.va (op_extract rfl rfl (ltn rfl)) rfl ?_
        refine VL.va (op_extract rfl rfl (ltn rfl)) rfl ?_
        refine VL.va (op_assign rfl (ltn rfl)) rfl ?_
        refine VL.va (op_assign rfl (ltn rfl)) rfl ?_
        refine VL.done ?_
        refine VN.then ?_
        refine VC.ret ?_
        simp only [Option.some.injEq, Prod.mk.injEq] at h
        obtain ⟨rfl, rfl⟩ := h
        exact VR.fn (rs := [.tmp 8, .tmp 9]) [] [(v2018, 33, 6, r2014.map enc32)] [0] rfl (.tmp rfl (.tmp rfl .nil)) ⟨v2018, rfl, rfl, rfl⟩ trivial rfl (by decide)
set_option maxHeartbeats 4000000 in
set_option maxRecDepth 100000 in
theorem slices_Insert_api_Row_api_Row.ok (l0 : List S32) (a1 : Int) (l2 : List S32) (v0 v2 : Value) (r1 : List S32) (h : slices_Insert_api_Row_api_Row.f l0 a1 l2 = some r1) :
    VOwn Try.prog 26 [v0, .int .i64 a1, v2] (v0, 33, 6, l0.map enc32) [.row v2 6 (l2.map enc32), .lent v2 33 6 (l2.map enc32)] (fun q x' => x' = (q, 33, 6, r1.map enc32)) := by
  unfold slices_Insert_api_Row_api_Row.f at h
  by_cases hc : ¬ (0 ≤ a1 ∧ a1 ≤ (l0.length : Int) ∧ (l0.length + l2.length) * 56 ≤ 140737488355328)
  · rw [if_neg hc] at h; cases h
  replace hc := Decidable.not_not.1 hc
  rw [if_pos hc] at h
  obtain rfl := Option.some.inj h
  obtain ⟨h0, hle, hbig⟩ := hc
  clear h
  obtain ⟨i, rfl⟩ : ∃ i : Nat, a1 = (i : Int) := ⟨a1.toNat, by omega⟩
  have hi : i ≤ l0.length := by omega
  have hsm : l0.length + l2.length ≤ 140737488355328 := by omega
  simp only [Int.toNat_natCast]
  refine VOwn.intro Try.func26 rfl (len rfl) fun E fr hW hD hU => ?_
  refine VC.formR 0 rfl fun A cap hv hcap => ?_
  rw [lenm] at hv hcap
  subst hv
  refine VC.seq (VC.region ?_)
  refine VL.va (op_assign rfl (ltn rfl)) rfl ?_
  refine VL.done (VN.then ?_)
  refine VC.seq (VC.region ?_)
  refine VL.va (op_move rfl (ltn rfl)) rfl ?_
  refine VL.va (op_move rfl (ltn rfl)) rfl ?_
  refine VL.va (op_cutV (l := i) (h := l0.length) Try.underlying23 TI33 rfl ⟨⟨_, _, rfl, h0, Int.toNat_natCast i⟩, rfl, hi, Nat.le_refl _⟩ hcap (ltn rfl)) rfl ?_
  refine VL.done (VN.then ?_)
  refine VC.seq (VC.region ?_)
  refine VL.va (op_move rfl (ltn rfl)) rfl ?_
  refine VL.va (op_len (m := l2.length) 0 lenm Try.underlying23 rfl rfl (ltn rfl)) rfl ?_
  refine VL.va (op_assign rfl (ltn rfl)) rfl ?_
  refine VL.done (VN.then ?_)
  refine VC.seq ?_
  refine VC.seq (VC.region ?_)
  refine VL.va (op_move rfl (ltn rfl)) rfl ?_
  refine VL.letter ((l2.length : Int) == 0) fun b3 hb3 => ?_
  refine VL.va (op_cmp rfl rfl (congrArg some hb3) (ltn rfl)) rfl ?_
  refine VL.done (VN.then ?_)
  by_cases c3 : l2.length = 0
  · have : b3 = true := by rw [← hb3]; simpa using c3
    subst this
    clear hb3
    refine VC.cond_t rfl ?_
    refine VC.seq (VC.region ?_)
    refine VL.va (op_move rfl (ltn rfl)) rfl ?_
    refine VL.va (op_assign rfl (ltn rfl)) rfl ?_
    refine VL.done (VN.then ?_)
    refine VC.ret (VR.then ?_)
    have e2 : l2 = [] := List.eq_nil_of_length_eq_zero c3
    refine VR.own (rs := [.tmp 6]) 0 [.row v2 6 (l2.map enc32), .lent v2 33 6 (l2.map enc32)] rfl (.tmp rfl .nil) rfl ?_ rfl id
    rw [e2, List.append_nil, List.take_append_drop]
    rfl
  have : b3 = false := by rw [← hb3]; simpa using c3
  subst this
  clear hb3
  refine VC.cond_f rfl (VC.skip (VN.then ?_))
  refine VC.openLent 1 rfl (by rw [lenm]; omega) ?_
  rintro vb c2 rfl
  rw [lenm]
  refine VC.seq (VC.region ?_)
  refine VL.va (op_move rfl (ltn rfl)) rfl ?_
  refine VL.va (op_lenV Try.underlying23 rfl (ltn rfl)) rfl ?_
  refine VL.va (op_assign rfl (ltn rfl)) rfl ?_
  refine VL.done (VN.then ?_)
  refine VC.seq ?_
  refine VC.seq (VC.region ?_)
  refine VL.va (op_move rfl (ltn rfl)) rfl ?_
  refine VL.va (op_move rfl (ltn rfl)) rfl ?_
  refine VL.letter ((i : Int) == (l0.length : Int)) fun b6 hb6 => ?_
  refine VL.va (op_cmp rfl rfl (congrArg some hb6) (ltn rfl)) rfl ?_
  refine VL.done (VN.then ?_)
  by_cases c6 : i = l0.length
  · have : b6 = true := by rw [← hb6]; simp [c6]
    subst this
    clear hb6
    refine VC.cond_t rfl ?_
    refine VC.seq (VC.region ?_)
    refine VL.va (op_move rfl (ltn rfl)) rfl ?_
    refine VL.va (op_move rfl (ltn rfl)) rfl ?_
    refine VL.sG (o_append 0 appm Try.underlying23 EI33 rfl rfl rfl (.inl ⟨0, rfl⟩) (bndm hbig) (ltn rfl)) rfl ?_
    intro v7
    refine VL.va (op_assign rfl (ltn rfl)) rfl ?_
    refine VL.done (VN.then ?_)
    refine VC.ret (VR.then ?_)
    refine VR.someR 0 rfl (by rw [lenm, List.length_append]; omega) fun hs7 => ?_
    refine VR.own (rs := [.tmp 6]) 0 [.row (.slice (some ⟨vb, 0, none⟩) l2.length c2) 6 (l2.map enc32), .lent (.slice (some ⟨vb, 0, none⟩) l2.length c2) 33 6 (l2.map enc32)] rfl (.tmp rfl .nil) rfl ?_ rfl (fun _ => hs7)
    rw [c6, List.take_length, List.drop_length, List.append_nil]
    rfl
  have : b6 = false := by rw [← hb6]; simpa using fun e => c6 (by omega)
  subst this
  clear hb6
  have hin : i < l0.length := by omega
  refine VC.cond_f rfl (VC.skip (VN.then ?_))
  refine VC.openBox 0 rfl (by rw [lenm]; omega) fun g cap' cur hv hcap' hmx hlen htake hfl => ?_
  rw [lenm] at hv hcap' htake
  obtain ⟨rfl, -, rfl⟩ := Value.slice.inj hv
  clear hv hcap'
  refine VC.lentNe 0 1 rfl rfl fun hne => ?_
  have hflv : flatOk 6 (l2.map enc32) := flat_map enc32_ok l2
  have hvl : (l2.map enc32).flatten.length = l2.length * 6 := by rw [flat_len hflv, lenm]
  have hd : ((cur.drop (i * 6)).take ((l0.length - i) * 6)).length = (l0.length - i) * 6 := by rw [List.length_take, List.length_drop, hlen]; omega
  have h1c : ∀ u ∈ (cur.drop (i * 6)).take ((l0.length - i) * 6), u.oneCell' = true := by
    intro u hu
    have e : (cur.drop (i * 6)).take ((l0.length - i) * 6) = (cur.take (l0.length * 6)).drop (i * 6) := by
      rw [List.drop_take]
      congr 1
      omega
    rw [e, htake] at hu
    exact flat_one hfl u (List.mem_of_mem_drop hu)
  have hfin : ((l0.take i ++ l2 ++ l0.drop i).map enc32).flatten = (cur.take (l0.length * 6)).take (i * 6) ++ (l2.map enc32).flatten ++ (cur.take (l0.length * 6)).drop (i * 6) := by
    rw [htake, List.map_append, List.map_append, List.flatten_append, List.flatten_append, List.map_take, List.map_drop, flat_take i hfl, flat_drop i hfl]
  have hfll : (l0.take i ++ l2 ++ l0.drop i).length = l0.length + l2.length := by simp only [List.length_append, List.length_take, List.length_drop]; omega
  refine VC.seq ?_
  refine VC.seq (VC.region ?_)
  refine VL.va (op_move rfl (ltn rfl)) rfl ?_
  refine VL.va (op_move rfl (ltn rfl)) rfl ?_
  refine VL.va (op_ari64 (q := ((l0.length + l2.length : Nat) : Int)) rfl rfl (congrArg some (w64 (by omega) (by omega))) (ltn rfl)) rfl ?_
  refine VL.va (op_move rfl (ltn rfl)) rfl ?_
  refine VL.va (op_cap Try.underlying23 rfl (ltn rfl)) rfl ?_
  refine VL.letter (decide (((l0.length + l2.length : Nat) : Int) > (cap : Int))) fun b8 hb8 => ?_
  refine VL.va (op_cmp rfl rfl (congrArg some hb8) (ltn rfl)) rfl ?_
  refine VL.done (VN.then ?_)
  by_cases c8 : cap < l0.length + l2.length
  · have : b8 = true := by rw [← hb8]; simp; omega
    subst this
    clear hb8
    refine VC.cond_t rfl ?_
    refine VC.seq (VC.region ?_)
    refine VL.va (op_move rfl (ltn rfl)) rfl ?_
    refine VL.va (op_move rfl (ltn rfl)) rfl ?_
    refine VL.va (op_cutH' 0 i (v := .slice (some ⟨g, 0, none⟩) i cap) (by rw [cutV_at0 (.inr rfl)]; simp) Try.underlying23 TI33 rfl ⟨rfl, ⟨_, _, rfl, h0, Int.toNat_natCast i⟩, Nat.zero_le _, by omega⟩ (ltn rfl)) rfl ?_
    refine VL.va (op_move rfl (ltn rfl)) rfl ?_
    refine VL.va (op_move rfl (ltn rfl)) rfl ?_
    refine VL.va (op_ari64 (q := ((l0.length + l2.length : Nat) : Int)) rfl rfl (congrArg some (w64 (by omega) (by omega))) (ltn rfl)) rfl ?_
    refine VL.va (op_move rfl (ltn rfl)) rfl ?_
    refine VL.va (op_ari64 (q := ((l0.length + l2.length - i : Nat) : Int)) rfl rfl (congrArg some (w64 (by omega) (by omega))) (ltn rfl)) rfl ?_
    refine o_appendZ 0 Try.underlying23 Try.underlying3 EI33 rfl rfl rfl (olds := cur.take (i * 6)) (by rw [List.drop_zero]) (by rw [List.length_take, hlen]; omega) (by omega) (by omega) (by omega) (by rw [show i + (l0.length + l2.length - i) = l0.length + l2.length by omega]; exact hbig) (ltn rfl) rfl fun g2 cap2 tail hc2 hm2 ht2 => ?_
    rw [show i + (l0.length + l2.length - i) = l0.length + l2.length by omega] at hc2 ⊢
    refine VL.va (op_assign rfl (ltn rfl)) rfl ?_
    refine VL.done (VN.then ?_)
    refine VC.seq (VC.region ?_)
    refine VL.va (op_move rfl (ltn rfl)) rfl ?_
    refine VL.va (op_move rfl (ltn rfl)) rfl ?_
    refine VL.va (op_cutV' i (l0.length + l2.length) (cutV_at0 (by omega)) Try.underlying23 TI33 rfl ⟨⟨_, _, rfl, h0, Int.toNat_natCast i⟩, rfl, by omega, Nat.le_refl _⟩ hc2 (ltn rfl)) rfl ?_
    refine VL.va (op_move rfl (ltn rfl)) rfl ?_
    have hol : (cur.take (i * 6) ++ tail).length = cap2 * 6 := by rw [List.length_append, List.length_take, hlen, ht2]; omega
    have hol2 : (upd (cur.take (i * 6) ++ tail) (i * 6) (l2.map enc32).flatten).length = cap2 * 6 := by rw [upd_len, hol]; rw [hvl, hol]; omega
    refine VL.step1 (o_copy (m := l2.length) 0 Try.underlying23 TI33 rfl rfl rfl (by omega) hvl (by rw [hvl, hol]; omega) (src_row 0 rfl) (flat_one hflv) rfl (ltn rfl)) rfl ?_
    refine VL.done (VN.then ?_)
    refine VC.seq ?_
    refine VC.draw ⟨0, [], [], [], []⟩ (by kernel_rfl) rfl (by kernel_rfl) (n := 9) (listed := LB 9 0) ?_
    refine VA.va (i := 0) (listed' := LB 9 1) rfl (op_move rfl (ltn rfl)) rfl (by kernel_rfl) (by kernel_rfl) (by kernel_rfl) (by kernel_rfl) ⟨trivial, trivial, trivial⟩ (fun _ _ _ h => h) ?_
    refine VA.va (i := 1) (listed' := LB 9 3) rfl (op_move rfl (ltn rfl)) rfl (by kernel_rfl) (by kernel_rfl) (by kernel_rfl) (by kernel_rfl) ⟨trivial, trivial, trivial⟩ (fun _ _ _ h => h) ?_
    refine VA.va (i := 2) (listed' := LB 9 7) rfl (op_move rfl (ltn rfl)) rfl (by kernel_rfl) (by kernel_rfl) (by kernel_rfl) (by kernel_rfl) ⟨trivial, trivial, trivial⟩ (fun _ _ _ h => h) ?_
    refine VA.va (i := 3) (listed' := LB 9 15) rfl (op_ari64 (q := ((i + l2.length : Nat) : Int)) rfl rfl (congrArg some (w64 (by omega) (by omega))) (ltn rfl)) rfl (by kernel_rfl) (by kernel_rfl) (by kernel_rfl) (by kernel_rfl) ⟨trivial, trivial, trivial⟩ (fun _ _ _ h => h) ?_
    refine VA.va (i := 4) (listed' := LB 9 31) rfl (op_cutV' (i + l2.length) (l0.length + l2.length) (cutV_at0 (by omega)) Try.underlying23 TI33 rfl ⟨⟨_, _, rfl, by omega, Int.toNat_natCast _⟩, rfl, by omega, Nat.le_refl _⟩ hc2 (ltn rfl)) rfl (by kernel_rfl) (by kernel_rfl) (by kernel_rfl) (by kernel_rfl) ⟨trivial, trivial, trivial⟩ (fun _ _ _ h => h) ?_
    refine VA.va (i := 5) (listed' := LB 9 63) rfl (op_move rfl (ltn rfl)) rfl (by kernel_rfl) (by kernel_rfl) (by kernel_rfl) (by kernel_rfl) ⟨trivial, trivial, trivial⟩ (fun _ _ _ h => h) ?_
    refine VA.va (i := 6) (listed' := LB 9 127) rfl (op_move rfl (ltn rfl)) rfl (by kernel_rfl) (by kernel_rfl) (by kernel_rfl) (by kernel_rfl) ⟨trivial, trivial, trivial⟩ (fun _ _ _ h => h) ?_
    refine VA.va (i := 7) (listed' := LB 9 255) rfl (op_cutV' i l0.length (cutV_at0 (by omega)) Try.underlying23 TI33 rfl ⟨⟨_, _, rfl, by omega, Int.toNat_natCast _⟩, rfl, by omega, Nat.le_refl _⟩ hcap (ltn rfl)) rfl (by kernel_rfl) (by kernel_rfl) (by kernel_rfl) (by kernel_rfl) ⟨trivial, trivial, trivial⟩ (fun _ _ _ h => h) ?_
    refine VA.one1 (i := 8) (listed' := LB 9 511) (by kernel_rfl) rfl (o_copy (m := l0.length - i) (cs := (cur.drop (i * 6)).take ((l0.length - i) * 6)) 0 Try.underlying23 TI33 rfl rfl rfl (by omega) hd (by rw [hd, hol2]; omega) (src_box ((l0.length - i) * 6) 1 rfl rfl) h1c rfl (ltn rfl)) rfl (by kernel_rfl) ⟨trivial, trivial, trivial⟩ ?_
    refine VA.done (by kernel_rfl) (VN.then ?_)
    refine VC.seq (VC.region ?_)
    refine VL.va (op_move rfl (ltn rfl)) rfl ?_
    refine VL.va (op_assign rfl (ltn rfl)) rfl ?_
    refine VL.done (VN.then ?_)
    refine VC.ret (VR.then ?_)
    refine VR.closeBox 0 cap2 6 ((l0.take i ++ l2 ++ l0.drop i).map enc32) rfl (by rw [lenm, hfll]; exact hc2) hm2 (by rw [upd_len, hol2]; rw [hd, hol2]; omega) ?_ (flat_map enc32_ok _) ?_
    · rw [lenm, hfll, hfin, Nat.add_mul, Nat.add_mul]
      exact ins_grow (by rw [hlen]; omega) (by omega) hvl (by rw [← Nat.sub_mul])
    rw [lenm, hfll]
    exact VR.own (rs := [.tmp 6]) 0 [.row (.slice (some ⟨vb, 0, none⟩) l2.length c2) 6 (l2.map enc32), .lent (.slice (some ⟨vb, 0, none⟩) l2.length c2) 33 6 (l2.map enc32)] rfl (.tmp rfl .nil) rfl rfl rfl (fun _ => rfl)
  have : b8 = false := by rw [← hb8]; simp; omega
  subst this
  clear hb8
  refine VC.cond_f rfl (VC.skip (VN.then ?_))
  refine VC.seq (VC.region ?_)
  refine VL.va (op_move rfl (ltn rfl)) rfl ?_
  refine VL.va (op_move rfl (ltn rfl)) rfl ?_
  refine VL.va (op_move rfl (ltn rfl)) rfl ?_
  refine VL.va (op_ari64 (q := ((l0.length + l2.length : Nat) : Int)) rfl rfl (congrArg some (w64 (by omega) (by omega))) (ltn rfl)) rfl ?_
  refine VL.va (op_cutH' 0 (l0.length + l2.length) (v := .slice (some ⟨g, 0, none⟩) (l0.length + l2.length) cap) (by rw [cutV_at0 (.inr rfl)]; simp) Try.underlying23 TI33 rfl ⟨rfl, ⟨_, _, rfl, by omega, Int.toNat_natCast _⟩, Nat.zero_le _, by omega⟩ (ltn rfl)) rfl ?_
  refine VL.va (op_assign rfl (ltn rfl)) rfl ?_
  refine VL.done (VN.then ?_)
  have hcur1 : (upd cur ((i + l2.length) * 6) ((cur.drop (i * 6)).take ((l0.length - i) * 6))).length = cap * 6 := by rw [upd_len, hlen]; rw [hd, hlen]; omega
  refine VC.seq ?_
  refine VC.seq ?_
  refine VC.region ?_
  refine VL.va (op_move rfl (ltn rfl)) rfl ?_
  refine VL.va (op_move rfl (ltn rfl)) rfl ?_
  refine VL.va (op_move rfl (ltn rfl)) rfl ?_
  refine VL.va (op_move rfl (ltn rfl)) rfl ?_
  refine VL.va (op_ari64 (q := ((i + l2.length : Nat) : Int)) rfl rfl (congrArg some (w64 (by omega) (by omega))) (ltn rfl)) rfl ?_
  refine VL.va (op_cutV' (i + l2.length) (l0.length + l2.length) (cutV_at0 (by omega)) Try.underlying23 TI33 rfl ⟨⟨_, _, rfl, by omega, Int.toNat_natCast _⟩, rfl, by omega, Nat.le_refl _⟩ (by omega) (ltn rfl)) rfl ?_
  refine VL.va (op_call_ext rfl rfl (ltn rfl) (fun w hm => run_overlaps (tb := 4) (j := 1) 0 Try.func42 (by kernel_rfl) (by kernel_rfl) (by kernel_rfl) (by kernel_rfl) Try.underlying23 TI33 rfl rfl (by rw [hlen]; omega) hne w hm)) rfl ?_
  refine VL.va (op_not rfl rfl (ltn rfl)) rfl ?_
  refine VL.done (VN.then ?_)
  refine VC.cond_t rfl ?_
  refine VC.seq ?_
  refine VC.draw ⟨0, [], [], [], []⟩ (by kernel_rfl) rfl (by kernel_rfl) (n := 9) (listed := LB 9 0) ?_
  refine VA.va (i := 0) (listed' := LB 9 1) rfl (op_move rfl (ltn rfl)) rfl (by kernel_rfl) (by kernel_rfl) (by kernel_rfl) (by kernel_rfl) ⟨trivial, trivial, trivial⟩ (fun _ _ _ h => h) ?_
  refine VA.va (i := 1) (listed' := LB 9 3) rfl (op_move rfl (ltn rfl)) rfl (by kernel_rfl) (by kernel_rfl) (by kernel_rfl) (by kernel_rfl) ⟨trivial, trivial, trivial⟩ (fun _ _ _ h => h) ?_
  refine VA.va (i := 2) (listed' := LB 9 7) rfl (op_move rfl (ltn rfl)) rfl (by kernel_rfl) (by kernel_rfl) (by kernel_rfl) (by kernel_rfl) ⟨trivial, trivial, trivial⟩ (fun _ _ _ h => h) ?_
  refine VA.va (i := 3) (listed' := LB 9 15) rfl (op_ari64 (q := ((i + l2.length : Nat) : Int)) rfl rfl (congrArg some (w64 (by omega) (by omega))) (ltn rfl)) rfl (by kernel_rfl) (by kernel_rfl) (by kernel_rfl) (by kernel_rfl) ⟨trivial, trivial, trivial⟩ (fun _ _ _ h => h) ?_
  refine VA.va (i := 4) (listed' := LB 9 31) rfl (op_cutV' (i + l2.length) (l0.length + l2.length) (cutV_at0 (by omega)) Try.underlying23 TI33 rfl ⟨⟨_, _, rfl, by omega, Int.toNat_natCast _⟩, rfl, by omega, Nat.le_refl _⟩ (by omega) (ltn rfl)) rfl (by kernel_rfl) (by kernel_rfl) (by kernel_rfl) (by kernel_rfl) ⟨trivial, trivial, trivial⟩ (fun _ _ _ h => h) ?_
  refine VA.va (i := 5) (listed' := LB 9 63) rfl (op_move rfl (ltn rfl)) rfl (by kernel_rfl) (by kernel_rfl) (by kernel_rfl) (by kernel_rfl) ⟨trivial, trivial, trivial⟩ (fun _ _ _ h => h) ?_
  refine VA.va (i := 6) (listed' := LB 9 127) rfl (op_move rfl (ltn rfl)) rfl (by kernel_rfl) (by kernel_rfl) (by kernel_rfl) (by kernel_rfl) ⟨trivial, trivial, trivial⟩ (fun _ _ _ h => h) ?_
  refine VA.va (i := 7) (listed' := LB 9 255) rfl (op_cutV' i (l0.length + l2.length) (cutV_at0 (by omega)) Try.underlying23 TI33 rfl ⟨⟨_, _, rfl, by omega, Int.toNat_natCast _⟩, rfl, by omega, Nat.le_refl _⟩ (by omega) (ltn rfl)) rfl (by kernel_rfl) (by kernel_rfl) (by kernel_rfl) (by kernel_rfl) ⟨trivial, trivial, trivial⟩ (fun _ _ _ h => h) ?_
  refine VA.one1 (i := 8) (listed' := LB 9 511) (by kernel_rfl) rfl (o_copy (m := l0.length - i) (cs := (cur.drop (i * 6)).take ((l0.length - i) * 6)) 0 Try.underlying23 TI33 rfl rfl rfl (by omega) hd (by rw [hd, hlen]; omega) (src_box ((l0.length - i) * 6) 0 rfl rfl) h1c rfl (ltn rfl)) rfl (by kernel_rfl) ⟨trivial, trivial, trivial⟩ ?_
  refine VA.done (by kernel_rfl) (VN.then ?_)
  refine VC.seq (VC.region ?_)
  refine VL.va (op_move rfl (ltn rfl)) rfl ?_
  refine VL.va (op_move rfl (ltn rfl)) rfl ?_
  refine VL.va (op_cutV' i (l0.length + l2.length) (cutV_at0 (by omega)) Try.underlying23 TI33 rfl ⟨⟨_, _, rfl, h0, Int.toNat_natCast i⟩, rfl, by omega, Nat.le_refl _⟩ (by omega) (ltn rfl)) rfl ?_
  refine VL.va (op_move rfl (ltn rfl)) rfl ?_
  refine VL.step1 (o_copy (m := l2.length) 0 Try.underlying23 TI33 rfl rfl rfl (by omega) hvl (by rw [hvl, hcur1]; omega) (src_row 0 rfl) (flat_one hflv) rfl (ltn rfl)) rfl ?_
  refine VL.done (VN.then ?_)
  refine VC.seq (VC.region ?_)
  refine VL.va (op_move rfl (ltn rfl)) rfl ?_
  refine VL.va (op_assign rfl (ltn rfl)) rfl ?_
  refine VL.done (VN.then ?_)
  refine VC.ret (VR.then ?_)
  refine VR.closeBox 0 cap 6 ((l0.take i ++ l2 ++ l0.drop i).map enc32) rfl (by rw [lenm, hfll]; omega) hmx (by rw [upd_len, hcur1]; rw [hvl, hcur1]; omega) ?_ (flat_map enc32_ok _) ?_
  · rw [lenm, hfll, hfin, Nat.add_mul, Nat.add_mul]
    exact ins_fits (by rw [hlen]; omega) (by omega) hvl (by rw [← Nat.sub_mul])
  rw [lenm, hfll]
  exact VR.own (rs := [.tmp 6]) 0 [.row (.slice (some ⟨vb, 0, none⟩) l2.length c2) 6 (l2.map enc32), .lent (.slice (some ⟨vb, 0, none⟩) l2.length c2) 33 6 (l2.map enc32)] rfl (.tmp rfl .nil) rfl rfl rfl (fun _ => rfl)

end Go.Proofs.Ytibpoajlnloloaa.PStockKeeps
