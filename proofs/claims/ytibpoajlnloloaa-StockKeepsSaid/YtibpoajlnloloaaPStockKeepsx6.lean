/- Written by a program of this repo: what the program's functions do, each as a Lean function, shown of the loaded code; or a statement's row over that; no condition of its own. -/
import Derived.Test.YtibpoajlnloloaaPStockKeepsx5
namespace Go.Proofs.Ytibpoajlnloloaa.PStockKeeps
open Go Go.RowKit Go.Proofs.YtibpoajlnloloaaV
set_option linter.unusedVariables false
set_option linter.unusedSimpArgs false

set_option maxHeartbeats 4000000 in
set_option maxRecDepth 100000 in
theorem stock_Receive.ok (k : Nat) (l0 : List S32) (a1 : ByteArray) (a2 : Int) (v0 : Value) (r1 : List S32) (r2 : Int) (h : stock_Receive.f k l0 a1 a2 = some (r1, r2)) :
    VCalls Try.prog 8 [v0, .string a1, .int .i64 a2] [.row v0 6 (l0.map enc32)] (fun v G own => ∃ w0 : Value, v = .tuple #[w0, .int .i64 r2] ∧ G = [] ∧ own = [(w0, 33, 6, r1.map enc32)]) := by
  refine VCalls.intro Try.func8 rfl (len rfl) fun E hC hW hD hU => ?_
  unfold stock_Receive.f at h
  refine VC.seq ?_
  refine VC.region ?_
  refine VL.va (op_assign rfl (ltn rfl)) rfl ?_
  refine VL.va (op_assign rfl (ltn rfl)) rfl ?_
  refine VL.done ?_
  refine VN.then ?_
  refine VC.seq ?_
  refine VC.seq ?_
  refine VC.region ?_
  refine VL.va (op_move rfl (ltn rfl)) rfl ?_
  replace h := Option.bind_eq_some_iff.1 h
  obtain ⟨t2058, hA2059, h⟩ := h
  refine VL.sC (o_call0 FO9 (stock_Right.ok k l0 v0 t2058 hA2059) rfl rfl (ltn rfl) (All_of (.cons (List.mem_of_getElem? (i := 0) rfl) .nil))) rfl ?_
  rintro _ _ _ ⟨rfl, rfl, rfl⟩
  by_cases c2060 : t2058 = true
  · rw [if_pos c2060] at h
    obtain rfl := c2060
    refine VL.va (op_not rfl rfl (ltn rfl)) rfl ?_
    refine VL.va (op_move rfl (ltn rfl)) rfl ?_
    refine VL.va (op_move rfl (ltn rfl)) rfl ?_
    replace h := Option.bind_eq_some_iff.1 h
    obtain ⟨t2061, hA2062, h⟩ := h
    refine VL.sC (o_call0 FO22 (stock_units.ok a2 t2061 hA2062) rfl rfl (ltn rfl) (All_of .nil)) rfl ?_
    rintro _ _ _ ⟨rfl, rfl, rfl⟩
    by_cases c2063 : t2061 = true
    · rw [if_pos c2063] at h
      obtain rfl := c2063
      refine VL.va (op_not rfl rfl (ltn rfl)) rfl ?_
      refine VL.va (op_pick rfl rfl (ltn rfl)) rfl ?_
      refine VL.va (op_move rfl (ltn rfl)) rfl ?_
      refine VL.va (op_move rfl (ltn rfl)) rfl ?_
      replace h := Option.bind_eq_some_iff.1 h
      obtain ⟨t2064, hA2065, h⟩ := h
      refine VL.sC (o_call0 FO23 (stock_name.ok k a1 t2064 hA2065) rfl rfl (ltn rfl) (All_of .nil)) rfl ?_
      rintro _ _ _ ⟨rfl, rfl, rfl⟩
      by_cases c2066 : t2064 = true
      · rw [if_pos c2066] at h
        obtain rfl := c2066
        refine VL.va (op_not rfl rfl (ltn rfl)) rfl ?_
        refine VL.va (op_pick rfl rfl (ltn rfl)) rfl ?_
        refine VL.done ?_
        refine VN.then ?_
        refine VC.cond_f rfl ?_
        refine VC.skip ?_
        refine VN.then ?_
        refine VC.seq ?_
        refine VC.region ?_
        refine VL.va (op_move rfl (ltn rfl)) rfl ?_
        refine VL.va (op_move rfl (ltn rfl)) rfl ?_
        replace h := Option.bind_eq_some_iff.1 h
        obtain ⟨⟨t2067, t2068⟩, hA2069, h⟩ := h
        dsimp only at h
        refine VL.sC (o_call0 FO24 (stock_at.ok k l0 a1 v0 t2067 t2068 hA2069) rfl rfl (ltn rfl) (All_of (.cons (List.mem_of_getElem? (i := 0) rfl) .nil))) rfl ?_
        rintro _ _ _ ⟨rfl, rfl, rfl⟩
        refine VL.va (op_move rfl (ltn rfl)) rfl ?_
        refine VL.va (op_extract rfl rfl (ltn rfl)) rfl ?_
        refine VL.va (op_extract rfl rfl (ltn rfl)) rfl ?_
        refine VL.va (op_assign rfl (ltn rfl)) rfl ?_
        refine VL.va (op_assign rfl (ltn rfl)) rfl ?_
        refine VL.done ?_
        refine VN.then ?_
        refine VC.seq ?_
        refine VC.seq ?_
        refine VC.region ?_
        refine VL.va (op_move rfl (ltn rfl)) rfl ?_
        replace h := Option.bind_eq_some_iff.1 h
        obtain ⟨r2088, hA2089, h⟩ := h
        refine VL.sC (o_call_b0 FO25 (slices_Clone_api_Row_api_Row.ok l0 v0 r2088 hA2089) rfl rfl (ltn rfl) (All_of (.cons (.inl (List.mem_of_getElem? (i := 0) rfl)) .nil)) (by rintro _ _ _ ⟨_, rfl, rfl, rfl⟩; rfl)) rfl ?_
        rintro v2091 _ _ ⟨_, rfl, rfl, rfl⟩
        refine VL.va (op_assign rfl (ltn rfl)) rfl ?_
        refine VL.done ?_
        refine VN.then ?_
        refine VC.seq ?_
        refine VC.region ?_
        refine VL.va (op_move rfl (ltn rfl)) rfl ?_
        by_cases c2093 : t2068 = true
        · rw [if_pos c2093] at h
          obtain rfl := c2093
          refine VL.va (op_not rfl rfl (ltn rfl)) rfl ?_
          refine VL.done ?_
          refine VN.then ?_
          refine VC.cond_f rfl ?_
          refine VC.skip ?_
          refine VN.then ?_
          refine VC.seq ?_
          refine VC.seq ?_
          refine VC.region ?_
          refine VL.va (op_move rfl (ltn rfl)) rfl ?_
          refine VL.va (op_move rfl (ltn rfl)) rfl ?_
          by_cases c2101 : 0 ≤ t2067
          · rw [if_pos c2101] at h
            replace h := Option.bind_eq_some_iff.1 h
            obtain ⟨x2102, hx2102, h⟩ := h
            refine VL.openR (m := r2088.length) 0 lenm rfl (pos_get hx2102) ?_
            rintro g2103 n2104 rfl
            refine VL.va (op_indexAddr Try.underlying23 TI33 rfl rfl c2101 (lt_get c2101 hx2102) (add_zero_at _ _) (ltn rfl)) rfl ?_
            refine VL.va (op_fieldAddr FI33_1 rfl (add_at _ _ _) (ltn rfl)) rfl ?_
            refine VL.va (op_load_own (sz := 6) (o := 1) 0 t2067.toNat 1 rfl rfl (get_map hx2102) TI3 rfl (by decide) (ltn rfl)) rfl ?_
            refine VL.va (op_move rfl (ltn rfl)) rfl ?_
            refine VL.va (op_ari64 rfl rfl rfl (ltn rfl)) rfl ?_
            refine VL.letter (decide (x2102.f1 > (wrap64 (1073741824 - a2)))) fun b2105 hb2105 => ?_
            refine VL.va (op_cmp rfl rfl (congrArg some hb2105) (ltn rfl)) rfl ?_
            refine VL.done ?_
            refine VN.then ?_
            by_cases c2106 : x2102.f1 > (wrap64 (1073741824 - a2))
            · rw [if_pos c2106] at h
              obtain rfl : b2105 = true := hb2105.symm.trans (decide_eq_true c2106)
              refine VC.cond_t rfl ?_
              refine VC.seq ?_
              refine VC.region ?_
              refine VL.va (op_assign rfl (ltn rfl)) rfl ?_
              refine VL.va (op_assign rfl (ltn rfl)) rfl ?_
              refine VL.done ?_
              refine VN.then ?_
              refine VC.ret ?_
              refine VR.then ?_
              simp only [Option.some.injEq, Prod.mk.injEq] at h
              obtain ⟨rfl, rfl⟩ := h
              refine VR.nilRow' 33 6 ?_
              exact VR.fn (rs := [.tmp 6, .tmp 7]) [] [((.slice none 0 0), 33, 6, ([] : List S32).map enc32)] [0] rfl (.tmp rfl (.tmp rfl .nil)) ⟨(.slice none 0 0), rfl, rfl, rfl⟩ trivial rfl (by decide)
            · rw [if_neg c2106] at h
              obtain rfl : b2105 = false := hb2105.symm.trans (decide_eq_false c2106)
              refine VC.cond_f rfl ?_
              refine VC.skip ?_
              refine VN.then ?_
              refine VC.seq ?_
              refine VC.region ?_
              refine VL.va (op_move rfl (ltn rfl)) rfl ?_
              refine VL.va (op_move rfl (ltn rfl)) rfl ?_
              replace h := Option.bind_eq_some_iff.1 h
              obtain ⟨x2108, hx2108, h⟩ := h
              refine VL.va (op_indexAddr Try.underlying23 TI33 rfl rfl c2101 (lt_get c2101 hx2108) (add_zero_at _ _) (ltn rfl)) rfl ?_
              refine VL.va (op_fieldAddr FI33_1 rfl (add_at _ _ _) (ltn rfl)) rfl ?_
              refine VL.va (op_load_own (sz := 6) (o := 1) 0 t2067.toNat 1 rfl rfl (get_map hx2108) TI3 rfl (by decide) (ltn rfl)) rfl ?_
              refine VL.va (op_move rfl (ltn rfl)) rfl ?_
              refine VL.va (op_ari64 rfl rfl rfl (ltn rfl)) rfl ?_
              replace h := Option.bind_eq_some_iff.1 h
              obtain ⟨x2109, hx2109, h⟩ := h
              refine VL.va (op_indexAddr Try.underlying23 TI33 rfl rfl c2101 (lt_get c2101 hx2109) (add_zero_at _ _) (ltn rfl)) rfl ?_
              refine VL.va (op_fieldAddr FI33_1 rfl (add_at _ _ _) (ltn rfl)) rfl ?_
              refine VL.step1 (o_store_own (sz := 6) (o := 1) (es3 := List.map enc32 (r2088.set t2067.toNat (⟨x2109.f0, wrap64 (x2108.f1 + a2), x2109.f2, x2109.f3, x2109.f4, x2109.f5⟩ : S32))) 0 t2067.toNat 1 lenm (setm rfl) rfl rfl rfl (get_map hx2109) TI3 (.c rfl) rfl (len rfl)) rfl ?_
              refine VL.done ?_
              refine VN.then ?_
              refine VC.seq ?_
              refine VC.region ?_
              refine VL.va (op_move rfl (ltn rfl)) rfl ?_
              refine VL.va (op_move rfl (ltn rfl)) rfl ?_
              replace h := Option.bind_eq_some_iff.1 h
              obtain ⟨x2112, hx2112, h⟩ := h
              refine VL.va (op_indexAddr Try.underlying23 TI33 rfl rfl c2101 (lt_get_len (by simp) c2101 hx2112) (add_zero_at _ _) (ltn rfl)) rfl ?_
              refine VL.va (op_fieldAddr FI33_2 rfl (add_at _ _ _) (ltn rfl)) rfl ?_
              refine VL.va (op_load_own (sz := 6) (o := 2) 0 t2067.toNat 1 rfl rfl (get_map hx2112) TI3 rfl (by decide) (ltn rfl)) rfl ?_
              refine VL.va (op_move rfl (ltn rfl)) rfl ?_
              refine VL.va (op_ari64 rfl rfl rfl (ltn rfl)) rfl ?_
              replace h := Option.bind_eq_some_iff.1 h
              obtain ⟨x2113, hx2113, h⟩ := h
              refine VL.va (op_indexAddr Try.underlying23 TI33 rfl rfl c2101 (lt_get_len (by simp) c2101 hx2113) (add_zero_at _ _) (ltn rfl)) rfl ?_
              refine VL.va (op_fieldAddr FI33_2 rfl (add_at _ _ _) (ltn rfl)) rfl ?_
              refine VL.step1 (o_store_own (sz := 6) (o := 2) (es3 := List.map enc32 ((r2088.set t2067.toNat (⟨x2109.f0, wrap64 (x2108.f1 + a2), x2109.f2, x2109.f3, x2109.f4, x2109.f5⟩ : S32)).set t2067.toNat (⟨x2113.f0, x2113.f1, wrap64 (x2112.f2 + a2), x2113.f3, x2113.f4, x2113.f5⟩ : S32))) 0 t2067.toNat 1 (by simp) (setm rfl) rfl rfl rfl (get_map hx2113) TI3 (.c rfl) rfl (len rfl)) rfl ?_
              refine VL.done ?_
              refine VN.then ?_
              refine VC.seq ?_
              refine VC.region ?_
              refine VL.va (op_move rfl (ltn rfl)) rfl ?_
              refine VL.va (op_assign rfl (ltn rfl)) rfl ?_
              refine VL.va (op_assign rfl (ltn rfl)) rfl ?_
              refine VL.done ?_
              refine VN.then ?_
              refine VC.ret ?_
              simp only [Option.some.injEq, Prod.mk.injEq] at h
              obtain ⟨rfl, rfl⟩ := h
              exact VR.fn (rs := [.tmp 6, .tmp 7]) [] [((.slice (some ⟨g2103, 0, none⟩) r2088.length n2104), 33, 6, ((r2088.set t2067.toNat (⟨x2109.f0, wrap64 (x2108.f1 + a2), x2109.f2, x2109.f3, x2109.f4, x2109.f5⟩ : S32)).set t2067.toNat (⟨x2113.f0, x2113.f1, wrap64 (x2112.f2 + a2), x2113.f3, x2113.f4, x2113.f5⟩ : S32)).map enc32)] [0] rfl (.tmp rfl (.tmp rfl .nil)) ⟨(.slice (some ⟨g2103, 0, none⟩) r2088.length n2104), rfl, rfl, rfl⟩ trivial rfl (by decide)
          · rw [if_neg c2101] at h; cases h
        · rw [if_neg c2093] at h
          obtain rfl := Bool.eq_false_iff.2 c2093
          refine VL.va (op_not rfl rfl (ltn rfl)) rfl ?_
          refine VL.done ?_
          refine VN.then ?_
          refine VC.cond_t rfl ?_
          refine VC.seq ?_
          refine VC.seq ?_
          refine VC.region ?_
          refine VL.va (op_move rfl (ltn rfl)) rfl ?_
          refine VL.va (op_len_own (m := r2088.length) 0 lenm Try.underlying23 rfl rfl (ltn rfl)) rfl ?_
          refine VL.letter (((r2088.length : Int) == 8)) fun b2119 hb2119 => ?_
          refine VL.va (op_cmp rfl rfl (congrArg some hb2119) (ltn rfl)) rfl ?_
          refine VL.done ?_
          refine VN.then ?_
          by_cases c2120 : (r2088.length : Int) = 8
          · rw [if_pos c2120] at h
            obtain rfl : b2119 = true := hb2119.symm.trans (beq_iff_eq.2 c2120)
            refine VC.cond_t rfl ?_
            refine VC.seq ?_
            refine VC.region ?_
            refine VL.va (op_assign rfl (ltn rfl)) rfl ?_
            refine VL.va (op_assign rfl (ltn rfl)) rfl ?_
            refine VL.done ?_
            refine VN.then ?_
            refine VC.ret ?_
            refine VR.then ?_
            refine VR.then ?_
            simp only [Option.some.injEq, Prod.mk.injEq] at h
            obtain ⟨rfl, rfl⟩ := h
            refine VR.nilRow' 33 6 ?_
            exact VR.fn (rs := [.tmp 6, .tmp 7]) [] [((.slice none 0 0), 33, 6, ([] : List S32).map enc32)] [0] rfl (.tmp rfl (.tmp rfl .nil)) ⟨(.slice none 0 0), rfl, rfl, rfl⟩ trivial rfl (by decide)
          · rw [if_neg c2120] at h
            obtain rfl : b2119 = false := hb2119.symm.trans (beq_eq_false_iff_ne.2 c2120)
            refine VC.cond_f rfl ?_
            refine VC.skip ?_
            refine VN.then ?_
            refine VC.region ?_
            refine VL.va (op_move rfl (ltn rfl)) rfl ?_
            refine VL.va (op_move rfl (ltn rfl)) rfl ?_
            refine VL.va (op_move rfl (ltn rfl)) rfl ?_
            refine VL.va (op_build (vals := [(0, .string a1)]) (vcs := [(0, [.string a1])]) (cells := [.string a1, .int .i64 0, .int .i64 0, .int .i64 0, .int .i64 0, .int .i64 0]) SI33 rfl (.cons ⟨rfl, (.c rfl)⟩ .nil) (by kernel_rfl) (ltn rfl)) rfl ?_
            refine VL.sG (o_buildSlice (vals := [(0, .agg #[.string a1, .int .i64 0, .int .i64 0, .int .i64 0, .int .i64 0, .int .i64 0])]) (cells := #[.string a1, .int .i64 0, .int .i64 0, .int .i64 0, .int .i64 0, .int .i64 0]) (es := List.map enc32 ([(⟨a1, 0, 0, 0, 0, 0⟩ : S32)] : List S32)) Try.underlying23 TI33 Z33 rfl (by decide) (by decide) (by kernel_rfl) (by kernel_rfl) rfl (flat_map enc32_ok _) (ltn rfl)) rfl ?_
            intro v2123
            replace h := Option.bind_eq_some_iff.1 h
            obtain ⟨r2124, hA2125, h⟩ := h
            refine VL.sG (o_call_own0 (vals := [v2091, .int .i64 t2067, v2123]) 1 rfl FO26 (slices_Insert_api_Row_api_Row.ok r2088 t2067 ([(⟨a1, 0, 0, 0, 0, 0⟩ : S32)] : List S32) v2091 v2123 r2124 hA2125) rfl rfl (ltn rfl) (All_of (.cons (.inr (.inl ⟨0, _, by decide, rfl, .inl rfl⟩)) (.cons (.inr (.inl ⟨0, _, by decide, rfl, .inr rfl⟩)) .nil)))) rfl ?_
            intro v2126
            refine VL.va (op_assign rfl (ltn rfl)) rfl ?_
            refine VL.done ?_
            refine VN.then ?_
            refine VC.seq ?_
            refine VC.seq ?_
            refine VC.region ?_
            refine VL.va (op_move rfl (ltn rfl)) rfl ?_
            refine VL.va (op_move rfl (ltn rfl)) rfl ?_
            by_cases c2135 : 0 ≤ t2067
            · rw [if_pos c2135] at h
              replace h := Option.bind_eq_some_iff.1 h
              obtain ⟨x2136, hx2136, h⟩ := h
              refine VL.openR (m := r2124.length) 1 lenm rfl (pos_get hx2136) ?_
              rintro g2137 n2138 rfl
              refine VL.va (op_indexAddr Try.underlying23 TI33 rfl rfl c2135 (lt_get c2135 hx2136) (add_zero_at _ _) (ltn rfl)) rfl ?_
              refine VL.va (op_fieldAddr FI33_1 rfl (add_at _ _ _) (ltn rfl)) rfl ?_
              refine VL.va (op_load_own (sz := 6) (o := 1) 1 t2067.toNat 1 rfl rfl (get_map hx2136) TI3 rfl (by decide) (ltn rfl)) rfl ?_
              refine VL.va (op_move rfl (ltn rfl)) rfl ?_
              refine VL.va (op_ari64 rfl rfl rfl (ltn rfl)) rfl ?_
              refine VL.letter (decide (x2136.f1 > (wrap64 (1073741824 - a2)))) fun b2139 hb2139 => ?_
              refine VL.va (op_cmp rfl rfl (congrArg some hb2139) (ltn rfl)) rfl ?_
              refine VL.done ?_
              refine VN.then ?_
              by_cases c2140 : x2136.f1 > (wrap64 (1073741824 - a2))
              · rw [if_pos c2140] at h
                obtain rfl : b2139 = true := hb2139.symm.trans (decide_eq_true c2140)
                refine VC.cond_t rfl ?_
                refine VC.seq ?_
                refine VC.region ?_
                refine VL.va (op_assign rfl (ltn rfl)) rfl ?_
                refine VL.va (op_assign rfl (ltn rfl)) rfl ?_
                refine VL.done ?_
                refine VN.then ?_
                refine VC.ret ?_
                refine VR.then ?_
                simp only [Option.some.injEq, Prod.mk.injEq] at h
                obtain ⟨rfl, rfl⟩ := h
                refine VR.nilRow' 33 6 ?_
                exact VR.fn (rs := [.tmp 6, .tmp 7]) [] [((.slice none 0 0), 33, 6, ([] : List S32).map enc32)] [0] rfl (.tmp rfl (.tmp rfl .nil)) ⟨(.slice none 0 0), rfl, rfl, rfl⟩ trivial rfl (by decide)
              · rw [if_neg c2140] at h
                obtain rfl : b2139 = false := hb2139.symm.trans (decide_eq_false c2140)
                refine VC.cond_f rfl ?_
                refine VC.skip ?_
                refine VN.then ?_
                refine VC.seq ?_
                refine VC.region ?_
                refine VL.va (op_move rfl (ltn rfl)) rfl ?_
                refine VL.va (op_move rfl (ltn rfl)) rfl ?_
                replace h := Option.bind_eq_some_iff.1 h
                obtain ⟨x2142, hx2142, h⟩ := h
                refine VL.va (op_indexAddr Try.underlying23 TI33 rfl rfl c2135 (lt_get c2135 hx2142) (add_zero_at _ _) (ltn rfl)) rfl ?_
                refine VL.va (op_fieldAddr FI33_1 rfl (add_at _ _ _) (ltn rfl)) rfl ?_
                refine VL.va (op_load_own (sz := 6) (o := 1) 1 t2067.toNat 1 rfl rfl (get_map hx2142) TI3 rfl (by decide) (ltn rfl)) rfl ?_
                refine VL.va (op_move rfl (ltn rfl)) rfl ?_
                refine VL.va (op_ari64 rfl rfl rfl (ltn rfl)) rfl ?_
                replace h := Option.bind_eq_some_iff.1 h
                obtain ⟨x2143, hx2143, h⟩ := h
                refine VL.va (op_indexAddr Try.underlying23 TI33 rfl rfl c2135 (lt_get c2135 hx2143) (add_zero_at _ _) (ltn rfl)) rfl ?_
                refine VL.va (op_fieldAddr FI33_1 rfl (add_at _ _ _) (ltn rfl)) rfl ?_
                refine VL.step1 (o_store_own (sz := 6) (o := 1) (es3 := List.map enc32 (r2124.set t2067.toNat (⟨x2143.f0, wrap64 (x2142.f1 + a2), x2143.f2, x2143.f3, x2143.f4, x2143.f5⟩ : S32))) 1 t2067.toNat 1 lenm (setm rfl) rfl rfl rfl (get_map hx2143) TI3 (.c rfl) rfl (len rfl)) rfl ?_
                refine VL.done ?_
                refine VN.then ?_
                refine VC.seq ?_
                refine VC.region ?_
                refine VL.va (op_move rfl (ltn rfl)) rfl ?_
                refine VL.va (op_move rfl (ltn rfl)) rfl ?_
                replace h := Option.bind_eq_some_iff.1 h
                obtain ⟨x2146, hx2146, h⟩ := h
                refine VL.va (op_indexAddr Try.underlying23 TI33 rfl rfl c2135 (lt_get_len (by simp) c2135 hx2146) (add_zero_at _ _) (ltn rfl)) rfl ?_
                refine VL.va (op_fieldAddr FI33_2 rfl (add_at _ _ _) (ltn rfl)) rfl ?_
                refine VL.va (op_load_own (sz := 6) (o := 2) 1 t2067.toNat 1 rfl rfl (get_map hx2146) TI3 rfl (by decide) (ltn rfl)) rfl ?_
                refine VL.va (op_move rfl (ltn rfl)) rfl ?_
                refine VL.va (op_ari64 rfl rfl rfl (ltn rfl)) rfl ?_
                replace h := Option.bind_eq_some_iff.1 h
                obtain ⟨x2147, hx2147, h⟩ := h
                refine VL.va (op_indexAddr Try.underlying23 TI33 rfl rfl c2135 (lt_get_len (by simp) c2135 hx2147) (add_zero_at _ _) (ltn rfl)) rfl ?_
                refine VL.va (op_fieldAddr FI33_2 rfl (add_at _ _ _) (ltn rfl)) rfl ?_
                refine VL.step1 (o_store_own (sz := 6) (o := 2) (es3 := List.map enc32 ((r2124.set t2067.toNat (⟨x2143.f0, wrap64 (x2142.f1 + a2), x2143.f2, x2143.f3, x2143.f4, x2143.f5⟩ : S32)).set t2067.toNat (⟨x2147.f0, x2147.f1, wrap64 (x2146.f2 + a2), x2147.f3, x2147.f4, x2147.f5⟩ : S32))) 1 t2067.toNat 1 (by simp) (setm rfl) rfl rfl rfl (get_map hx2147) TI3 (.c rfl) rfl (len rfl)) rfl ?_
                refine VL.done ?_
                refine VN.then ?_
                refine VC.seq ?_
                refine VC.region ?_
                refine VL.va (op_move rfl (ltn rfl)) rfl ?_
                refine VL.va (op_assign rfl (ltn rfl)) rfl ?_
                refine VL.va (op_assign rfl (ltn rfl)) rfl ?_
                refine VL.done ?_
                refine VN.then ?_
                refine VC.ret ?_
                simp only [Option.some.injEq, Prod.mk.injEq] at h
                obtain ⟨rfl, rfl⟩ := h
                exact VR.fn (rs := [.tmp 6, .tmp 7]) [] [((.slice (some ⟨g2137, 0, none⟩) r2124.length n2138), 33, 6, ((r2124.set t2067.toNat (⟨x2143.f0, wrap64 (x2142.f1 + a2), x2143.f2, x2143.f3, x2143.f4, x2143.f5⟩ : S32)).set t2067.toNat (⟨x2147.f0, x2147.f1, wrap64 (x2146.f2 + a2), x2147.f3, x2147.f4, x2147.f5⟩ : S32)).map enc32)] [1] rfl (.tmp rfl (.tmp rfl .nil)) ⟨(.slice (some ⟨g2137, 0, none⟩) r2124.length n2138), rfl, rfl, rfl⟩ trivial rfl (by decide)
            · rw [if_neg c2135] at h; cases h
      · rw [if_neg c2066] at h
        obtain rfl := Bool.eq_false_iff.2 c2066
        refine VL.va (op_not rfl rfl (ltn rfl)) rfl ?_
        refine VL.va (op_pick rfl rfl (ltn rfl)) rfl ?_
        refine VL.done ?_
        refine VN.then ?_
        refine VC.cond_t rfl ?_
        refine VC.seq ?_
        refine VC.region ?_
        refine VL.va (op_assign rfl (ltn rfl)) rfl ?_
        refine VL.va (op_assign rfl (ltn rfl)) rfl ?_
        refine VL.done ?_
        refine VN.then ?_
        refine VC.ret ?_
        refine VR.then ?_
        simp only [Option.some.injEq, Prod.mk.injEq] at h
        obtain ⟨rfl, rfl⟩ := h
        refine VR.nilRow' 33 6 ?_
        exact VR.fn (rs := [.tmp 6, .tmp 7]) [] [((.slice none 0 0), 33, 6, ([] : List S32).map enc32)] [0] rfl (.tmp rfl (.tmp rfl .nil)) ⟨(.slice none 0 0), rfl, rfl, rfl⟩ trivial rfl (by decide)
    · rw [if_neg c2063] at h
      obtain rfl := Bool.eq_false_iff.2 c2063
      refine VL.va (op_not rfl rfl (ltn rfl)) rfl ?_
      refine VL.va (op_pick rfl rfl (ltn rfl)) rfl ?_
      refine VL.va (op_move rfl (ltn rfl)) rfl ?_
      refine VL.un rfl rfl (ltn rfl) ?_
      refine VL.un rfl rfl (ltn rfl) ?_
      refine VL.un rfl rfl (ltn rfl) ?_
      refine VL.va (op_pick rfl rfl (ltn rfl)) rfl ?_
      refine VL.done ?_
      refine VN.then ?_
      refine VC.cond_t rfl ?_
      refine VC.seq ?_
      refine VC.region ?_
      refine VL.va (op_assign rfl (ltn rfl)) rfl ?_
      refine VL.va (op_assign rfl (ltn rfl)) rfl ?_
      refine VL.done ?_
      refine VN.then ?_
      refine VC.ret ?_
      refine VR.then ?_
      simp only [Option.some.injEq, Prod.mk.injEq] at h
      obtain ⟨rfl, rfl⟩ := h
      refine VR.nilRow' 33 6 ?_
      exact VR.fn (rs := [.tmp 6, .tmp 7]) [] [((.slice none 0 0), 33, 6, ([] : List S32).map enc32)] [0] rfl (.tmp rfl (.tmp rfl .nil)) ⟨(.slice none 0 0), rfl, rfl, rfl⟩ trivial rfl (by decide)
  · rw [if_neg c2060] at h
    obtain rfl := Bool.eq_false_iff.2 c2060
    refine VL.va (op_not rfl rfl (ltn rfl)) rfl ?_
    refine VL.va (op_move rfl (ltn rfl)) rfl ?_
    refine VL.un rfl rfl (ltn rfl) ?_
    refine VL.un rfl rfl (ltn rfl) ?_
    refine VL.un rfl rfl (ltn rfl) ?_
    refine VL.va (op_pick rfl rfl (ltn rfl)) rfl ?_
    refine VL.va (op_move rfl (ltn rfl)) rfl ?_
    refine VL.un rfl rfl (ltn rfl) ?_
    refine VL.un rfl rfl (ltn rfl) ?_
    refine VL.un rfl rfl (ltn rfl) ?_
    refine VL.va (op_pick rfl rfl (ltn rfl)) rfl ?_
    refine VL.done ?_
    refine VN.then ?_
    refine VC.cond_t rfl ?_
    refine VC.seq ?_
    refine VC.region ?_
    refine VL.va (op_assign rfl (ltn rfl)) rfl ?_
    refine VL.va (op_assign rfl (ltn rfl)) rfl ?_
    refine VL.done ?_
    refine VN.then ?_
    refine VC.ret ?_
    refine VR.then ?_
    simp only [Option.some.injEq, Prod.mk.injEq] at h
    obtain ⟨rfl, rfl⟩ := h
    refine VR.nilRow' 33 6 ?_
    exact VR.fn (rs := [.tmp 6, .tmp 7]) [] [((.slice none 0 0), 33, 6, ([] : List S32).map enc32)] [0] rfl (.tmp rfl (.tmp rfl .nil)) ⟨(.slice none 0 0), rfl, rfl, rfl⟩ trivial rfl (by decide)
set_option maxHeartbeats 4000000 in
set_option maxRecDepth 100000 in
theorem tarrylaw08_alive.ok (k : Nat)   (r1 : Bool) (h : tarrylaw08_alive.f k = some r1) :
    VCalls Try.prog 10 [] [] (fun v G own => v = .bool r1 ∧ G = [] ∧ own = []) := by
  refine VCalls.intro Try.func10 rfl (len rfl) fun E hC hW hD hU => ?_
  unfold tarrylaw08_alive.f at h
  refine VC.seq ?_
  refine VC.region ?_
  refine VL.va (op_assign rfl (ltn rfl)) rfl ?_
  refine VL.done ?_
  refine VN.then ?_
  refine VC.seq ?_
  refine VC.region ?_
  refine VL.nilFact' 6 ?_
  replace h := Option.bind_eq_some_iff.1 h
  obtain ⟨⟨r4471, t4472⟩, hA4473, h⟩ := h
  dsimp only at h
  refine VL.sC (o_call0 FO8 (stock_Receive.ok k [] (⟨#[99, 117, 112]⟩ : ByteArray) 5 (.slice none 0 0) r4471 t4472 hA4473) rfl rfl (ltn rfl) (All_of (.cons (List.mem_of_getElem? (i := 0) rfl) .nil))) rfl ?_
  rintro _ _ _ ⟨v4475, rfl, rfl, rfl⟩
  refine VL.va (op_move rfl (ltn rfl)) rfl ?_
  refine VL.va (op_extract rfl rfl (ltn rfl)) rfl ?_
  refine VL.va (op_extract rfl rfl (ltn rfl)) rfl ?_
  refine VL.va (op_assign rfl (ltn rfl)) rfl ?_
  refine VL.va (op_assign rfl (ltn rfl)) rfl ?_
  refine VL.done ?_
  refine VN.then ?_
  refine VC.seq ?_
  refine VC.region ?_
  refine VL.va (op_move rfl (ltn rfl)) rfl ?_
  replace h := Option.bind_eq_some_iff.1 h
  obtain ⟨⟨r4476, t4477⟩, hA4478, h⟩ := h
  dsimp only at h
  refine VL.sC (o_call_b0 FO13 (stock_Hold.ok k r4471 (⟨#[99, 117, 112]⟩ : ByteArray) 2 v4475 r4476 t4477 hA4478) rfl rfl (ltn rfl) (All_of (.cons (.inr (.inl ⟨_, List.mem_of_getElem? (i := 0) rfl, rfl⟩)) .nil)) (by rintro _ _ _ ⟨v4480, rfl, rfl, rfl⟩; rfl)) rfl ?_
  rintro _ _ _ ⟨v4480, rfl, rfl, rfl⟩
  refine VL.va (op_move rfl (ltn rfl)) rfl ?_
  refine VL.va (op_extract rfl rfl (ltn rfl)) rfl ?_
  refine VL.va (op_extract rfl rfl (ltn rfl)) rfl ?_
  refine VL.va (op_assign rfl (ltn rfl)) rfl ?_
  refine VL.va (op_assign rfl (ltn rfl)) rfl ?_
  refine VL.done ?_
  refine VN.then ?_
  refine VC.seq ?_
  refine VC.region ?_
  refine VL.va (op_move rfl (ltn rfl)) rfl ?_
  refine VL.letter ((t4472 == 0)) fun b4491 hb4491 => ?_
  refine VL.va (op_cmp rfl rfl (congrArg some hb4491) (ltn rfl)) rfl ?_
  refine VL.va (op_move rfl (ltn rfl)) rfl ?_
  by_cases c4492 : t4472 = 0
  · rw [if_pos c4492] at h
    obtain rfl : b4491 = true := hb4491.symm.trans (beq_iff_eq.2 c4492)
    refine VL.va (op_move rfl (ltn rfl)) rfl ?_
    refine VL.letter ((t4477 == 0)) fun b4493 hb4493 => ?_
    refine VL.va (op_cmp rfl rfl (congrArg some hb4493) (ltn rfl)) rfl ?_
    refine VL.va (op_pick rfl rfl (ltn rfl)) rfl ?_
    refine VL.va (op_move rfl (ltn rfl)) rfl ?_
    by_cases c4494 : t4477 = 0
    · rw [if_pos c4494] at h
      obtain rfl : b4493 = true := hb4493.symm.trans (beq_iff_eq.2 c4494)
      refine VL.va (op_move rfl (ltn rfl)) rfl ?_
      refine VL.va (op_len_own (m := r4476.length) 0 lenm Try.underlying23 rfl rfl (ltn rfl)) rfl ?_
      refine VL.letter (((r4476.length : Int) == 1)) fun b4495 hb4495 => ?_
      refine VL.va (op_cmp rfl rfl (congrArg some hb4495) (ltn rfl)) rfl ?_
      refine VL.va (op_pick rfl rfl (ltn rfl)) rfl ?_
      refine VL.va (op_move rfl (ltn rfl)) rfl ?_
      by_cases c4496 : (r4476.length : Int) = 1
      · rw [if_pos c4496] at h
        obtain rfl : b4495 = true := hb4495.symm.trans (beq_iff_eq.2 c4496)
        refine VL.va (op_move rfl (ltn rfl)) rfl ?_
        replace h := Option.bind_eq_some_iff.1 h
        obtain ⟨x4497, hx4497, h⟩ := h
        refine VL.openR (m := r4476.length) 0 lenm rfl (pos_get hx4497) ?_
        rintro g4498 n4499 rfl
        refine VL.va (op_indexAddr Try.underlying23 TI33 rfl rfl (by decide) (lt_get (by decide) hx4497) (add_zero_at _ _) (ltn rfl)) rfl ?_
        refine VL.va (op_load_own (sz := 6) (o := 0) 0 0 6 rfl rfl (get_map hx4497) TI33 rfl (fun h => absurd h (by decide)) (ltn rfl)) rfl ?_
        refine VL.va (op_build (vals := [(0, .string (⟨#[99, 117, 112]⟩ : ByteArray)), (1, .int .i64 5), (2, .int .i64 3), (3, .int .i64 2)]) (vcs := [(0, [.string (⟨#[99, 117, 112]⟩ : ByteArray)]), (1, [.int .i64 5]), (2, [.int .i64 3]), (3, [.int .i64 2])]) (cells := [.string (⟨#[99, 117, 112]⟩ : ByteArray), .int .i64 5, .int .i64 3, .int .i64 2, .int .i64 0, .int .i64 0]) SI33 rfl (.cons ⟨rfl, (.c rfl)⟩ (.cons ⟨rfl, (.c rfl)⟩ (.cons ⟨rfl, (.c rfl)⟩ (.cons ⟨rfl, (.c rfl)⟩ .nil)))) (by kernel_rfl) (ltn rfl)) rfl ?_
        refine VL.letter ((((x4497.f0 == (⟨#[99, 117, 112]⟩ : ByteArray)) && ((x4497.f1 == 5) && ((x4497.f2 == 3) && ((x4497.f3 == 2) && ((x4497.f4 == 0) && (x4497.f5 == 0)))))))) fun b4500 hb4500 => ?_
        refine VL.va (op_eqS rfl rfl EG33 (EQ33 x4497.f0 x4497.f1 x4497.f2 x4497.f3 x4497.f4 x4497.f5 (⟨#[99, 117, 112]⟩ : ByteArray) 5 3 2 0 0) hb4500 (ltn rfl)) rfl ?_
        refine VL.va (op_pick rfl rfl (ltn rfl)) rfl ?_
        refine VL.va (op_assign rfl (ltn rfl)) rfl ?_
        refine VL.done ?_
        refine VN.then ?_
        refine VC.ret ?_
        obtain rfl := Option.some.inj h
        subst hb4500
        exact VR.fn (rs := [.tmp 0]) [] [] [] rfl (.tmp rfl .nil) ⟨rfl, rfl, rfl⟩ trivial rfl (by decide)
      · rw [if_neg c4496] at h
        obtain rfl : b4495 = false := hb4495.symm.trans (beq_eq_false_iff_ne.2 c4496)
        refine VL.un rfl rfl (ltn rfl) ?_
        refine VL.un rfl rfl (ltn rfl) ?_
        refine VL.un rfl rfl (ltn rfl) ?_
        refine VL.un rfl rfl (ltn rfl) ?_
        refine VL.un rfl rfl (ltn rfl) ?_
        refine VL.va (op_pick rfl rfl (ltn rfl)) rfl ?_
        refine VL.va (op_assign rfl (ltn rfl)) rfl ?_
        refine VL.done ?_
        refine VN.then ?_
        refine VC.ret ?_
        obtain rfl := Option.some.inj h
        exact VR.fn (rs := [.tmp 0]) [] [] [] rfl (.tmp rfl .nil) ⟨rfl, rfl, rfl⟩ trivial rfl (by decide)
    · rw [if_neg c4494] at h
      obtain rfl : b4493 = false := hb4493.symm.trans (beq_eq_false_iff_ne.2 c4494)
      refine VL.un rfl rfl (ltn rfl) ?_
      refine VL.un rfl rfl (ltn rfl) ?_
      refine VL.un rfl rfl (ltn rfl) ?_
      refine VL.va (op_pick rfl rfl (ltn rfl)) rfl ?_
      refine VL.va (op_move rfl (ltn rfl)) rfl ?_
      refine VL.un rfl rfl (ltn rfl) ?_
      refine VL.un rfl rfl (ltn rfl) ?_
      refine VL.un rfl rfl (ltn rfl) ?_
      refine VL.un rfl rfl (ltn rfl) ?_
      refine VL.un rfl rfl (ltn rfl) ?_
      refine VL.va (op_pick rfl rfl (ltn rfl)) rfl ?_
      refine VL.va (op_assign rfl (ltn rfl)) rfl ?_
      refine VL.done ?_
      refine VN.then ?_
      refine VC.ret ?_
      obtain rfl := Option.some.inj h
      exact VR.fn (rs := [.tmp 0]) [] [] [] rfl (.tmp rfl .nil) ⟨rfl, rfl, rfl⟩ trivial rfl (by decide)
  · rw [if_neg c4492] at h
    obtain rfl : b4491 = false := hb4491.symm.trans (beq_eq_false_iff_ne.2 c4492)
    refine VL.un rfl rfl (ltn rfl) ?_
    refine VL.un rfl rfl (ltn rfl) ?_
    refine VL.va (op_pick rfl rfl (ltn rfl)) rfl ?_
    refine VL.va (op_move rfl (ltn rfl)) rfl ?_
    refine VL.un rfl rfl (ltn rfl) ?_
    refine VL.un rfl rfl (ltn rfl) ?_
    refine VL.un rfl rfl (ltn rfl) ?_
    refine VL.va (op_pick rfl rfl (ltn rfl)) rfl ?_
    refine VL.va (op_move rfl (ltn rfl)) rfl ?_
    refine VL.un rfl rfl (ltn rfl) ?_
    refine VL.un rfl rfl (ltn rfl) ?_
    refine VL.un rfl rfl (ltn rfl) ?_
    refine VL.un rfl rfl (ltn rfl) ?_
    refine VL.un rfl rfl (ltn rfl) ?_
    refine VL.va (op_pick rfl rfl (ltn rfl)) rfl ?_
    refine VL.va (op_assign rfl (ltn rfl)) rfl ?_
    refine VL.done ?_
    refine VN.then ?_
    refine VC.ret ?_
    obtain rfl := Option.some.inj h
    exact VR.fn (rs := [.tmp 0]) [] [] [] rfl (.tmp rfl .nil) ⟨rfl, rfl, rfl⟩ trivial rfl (by decide)

end Go.Proofs.Ytibpoajlnloloaa.PStockKeeps
