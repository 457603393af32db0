/- Written by a program of this repo: what the program's functions do, each as a Lean function, shown of the loaded code; or a statement's row over that; no condition of its own. -/
import Derived.Test.YtibpoajlnloloaaPStockBackx5
namespace Go.Proofs.Ytibpoajlnloloaa.PStockBack
open Go Go.RowKit Go.Proofs.YtibpoajlnloloaaV
set_option linter.unusedVariables false
set_option linter.unusedSimpArgs false

set_option maxHeartbeats 4000000 in
set_option maxRecDepth 100000 in
theorem stock_move_s45.ok (k : Nat) (l0 : List S32) (a1 : ByteArray) (a2 : Int) (v0 : Value) (r1 : List S32) (r2 : Int) (h : stock_move_s45.f k l0 a1 a2 = some (r1, r2)) :
    VCalls Try.prog 28 [v0, .string a1, .int .i64 a2, (.func (.func 31) #[] #[])] [.row v0 6 (l0.map enc32)] (fun v G own => ∃ w0 : Value, v = .tuple #[w0, .int .i64 r2] ∧ G = [] ∧ own = [(w0, 33, 6, r1.map enc32)]) := by
  refine VCalls.intro Try.func28 rfl (len rfl) fun E hC => ?_
  unfold stock_move_s45.f at h
  refine VC.seq ?_
  refine VC.region ?_
  refine VL.va (op_assign rfl (ltn rfl)) rfl ?_
  refine VL.va (op_assign rfl (ltn rfl)) rfl ?_
  refine VL.done ?_
  refine VN.then ?_
  refine VC.seq ?_
  refine VC.seq ?_
  refine VC.region ?_
  refine VL.va (op_move rfl (ltn rfl)) rfl ?_
  replace h := Option.bind_eq_some_iff.1 h
  obtain ⟨t2195, hA2196, h⟩ := h
  refine VL.sC (o_call0 FO9 (stock_Right.ok k l0 v0 t2195 hA2196) rfl rfl (ltn rfl) (All_of (.cons (List.mem_of_getElem? (i := 0) rfl) .nil))) rfl ?_
  rintro _ _ _ ⟨rfl, rfl, rfl⟩
  by_cases c2197 : t2195 = true
  · rw [if_pos c2197] at h
    obtain rfl := c2197
    refine VL.va (op_not rfl rfl (ltn rfl)) rfl ?_
    refine VL.va (op_move rfl (ltn rfl)) rfl ?_
    refine VL.va (op_move rfl (ltn rfl)) rfl ?_
    replace h := Option.bind_eq_some_iff.1 h
    obtain ⟨t2198, hA2199, h⟩ := h
    refine VL.sC (o_call0 FO22 (stock_units.ok a2 t2198 hA2199) rfl rfl (ltn rfl) (All_of .nil)) rfl ?_
    rintro _ _ _ ⟨rfl, rfl, rfl⟩
    by_cases c2200 : t2198 = true
    · rw [if_pos c2200] at h
      obtain rfl := c2200
      refine VL.va (op_not rfl rfl (ltn rfl)) rfl ?_
      refine VL.va (op_pick rfl rfl (ltn rfl)) rfl ?_
      refine VL.done ?_
      refine VN.then ?_
      refine VC.cond_f rfl ?_
      refine VC.skip ?_
      refine VN.then ?_
      refine VC.seq ?_
      refine VC.region ?_
      refine VL.va (op_move rfl (ltn rfl)) rfl ?_
      refine VL.va (op_move rfl (ltn rfl)) rfl ?_
      replace h := Option.bind_eq_some_iff.1 h
      obtain ⟨⟨t2201, t2202⟩, hA2203, h⟩ := h
      dsimp only at h
      refine VL.sC (o_call0 FO24 (stock_at.ok k l0 a1 v0 t2201 t2202 hA2203) rfl rfl (ltn rfl) (All_of (.cons (List.mem_of_getElem? (i := 0) rfl) .nil))) rfl ?_
      rintro _ _ _ ⟨rfl, rfl, rfl⟩
      refine VL.va (op_move rfl (ltn rfl)) rfl ?_
      refine VL.va (op_extract rfl rfl (ltn rfl)) rfl ?_
      refine VL.va (op_extract rfl rfl (ltn rfl)) rfl ?_
      refine VL.va (op_assign rfl (ltn rfl)) rfl ?_
      refine VL.va (op_assign rfl (ltn rfl)) rfl ?_
      refine VL.done ?_
      refine VN.then ?_
      refine VC.seq ?_
      refine VC.seq ?_
      refine VC.region ?_
      refine VL.va (op_move rfl (ltn rfl)) rfl ?_
      by_cases c2208 : t2202 = true
      · rw [if_pos c2208] at h
        obtain rfl := c2208
        refine VL.va (op_not rfl rfl (ltn rfl)) rfl ?_
        refine VL.done ?_
        refine VN.then ?_
        refine VC.cond_f rfl ?_
        refine VC.skip ?_
        refine VN.then ?_
        refine VC.seq ?_
        refine VC.region ?_
        refine VL.va (op_move rfl (ltn rfl)) rfl ?_
        replace h := Option.bind_eq_some_iff.1 h
        obtain ⟨r2209, hA2210, h⟩ := h
        refine VL.sC (o_call_b0 FO25 (slices_Clone_api_Row_api_Row.ok l0 v0 r2209 hA2210) rfl rfl (ltn rfl) (All_of (.cons (.inl (List.mem_of_getElem? (i := 0) rfl)) .nil)) (by rintro _ _ _ ⟨_, rfl, rfl, rfl⟩; rfl)) rfl ?_
        rintro v2212 _ _ ⟨_, rfl, rfl, rfl⟩
        refine VL.va (op_assign rfl (ltn rfl)) rfl ?_
        refine VL.done ?_
        refine VN.then ?_
        refine VC.seq ?_
        refine VC.region ?_
        refine VL.va (op_move rfl (ltn rfl)) rfl ?_
        refine VL.va (op_move rfl (ltn rfl)) rfl ?_
        refine VL.va (op_move rfl (ltn rfl)) rfl ?_
        by_cases c2213 : 0 ≤ t2201
        · rw [if_pos c2213] at h
          replace h := Option.bind_eq_some_iff.1 h
          obtain ⟨x2214, hx2214, h⟩ := h
          refine VL.openR (m := r2209.length) 0 lenm rfl (pos_get hx2214) ?_
          rintro g2215 n2216 rfl
          refine VL.va (op_indexAddr Try.underlying23 TI33 rfl rfl c2213 (lt_get c2213 hx2214) (add_zero_at _ _) (ltn rfl)) rfl ?_
          replace h := Option.bind_eq_some_iff.1 h
          obtain ⟨_, hA2217, h⟩ := h
          refine VL.sC (o_call0 FO31 (stock_Ship_1.ok (⟨g2215, t2201.toNat * 6, none⟩ : Addr) hA2217) rfl rfl (ltn rfl) (All_of .nil)) rfl ?_
          rintro _ _ _ ⟨rfl, rfl, rfl⟩
          refine VL.va (op_move rfl (ltn rfl)) rfl ?_
          refine VL.va (op_extract rfl rfl (ltn rfl)) rfl ?_
          refine VL.va (op_extract rfl rfl (ltn rfl)) rfl ?_
          refine VL.va (op_assign rfl (ltn rfl)) rfl ?_
          refine VL.va (op_assign rfl (ltn rfl)) rfl ?_
          refine VL.done ?_
          refine VN.then ?_
          refine VC.seq ?_
          refine VC.seq ?_
          refine VC.region ?_
          refine VL.va (op_move rfl (ltn rfl)) rfl ?_
          refine VL.va (op_nilCheck rfl (ltn rfl)) rfl ?_
          refine VL.va (op_load_own (sz := 6) (o := 3) 0 t2201.toNat 1 rfl rfl (get_map hx2214) TI3 rfl (by decide) (ltn rfl)) rfl ?_
          refine VL.va (op_move rfl (ltn rfl)) rfl ?_
          refine VL.letter (decide (x2214.f3 < a2)) fun b2221 hb2221 => ?_
          refine VL.va (op_cmp rfl rfl (congrArg some hb2221) (ltn rfl)) rfl ?_
          refine VL.done ?_
          refine VN.then ?_
          by_cases c2222 : x2214.f3 < a2
          · rw [if_pos c2222] at h
            obtain rfl : b2221 = true := hb2221.symm.trans (decide_eq_true c2222)
            refine VC.cond_t rfl ?_
            refine VC.seq ?_
            refine VC.region ?_
            refine VL.va (op_assign rfl (ltn rfl)) rfl ?_
            refine VL.va (op_assign rfl (ltn rfl)) rfl ?_
            refine VL.done ?_
            refine VN.then ?_
            refine VC.ret ?_
            refine VR.then ?_
            simp only [Option.some.injEq, Prod.mk.injEq] at h
            obtain ⟨rfl, rfl⟩ := h
            refine VR.nilRow' 33 6 ?_
            exact VR.fn (rs := [.tmp 8, .tmp 9]) [] [((.slice none 0 0), 33, 6, ([] : List S32).map enc32)] [0] rfl (.tmp rfl (.tmp rfl .nil)) ⟨(.slice none 0 0), rfl, rfl, rfl⟩ trivial rfl (by decide)
          · rw [if_neg c2222] at h
            obtain rfl : b2221 = false := hb2221.symm.trans (decide_eq_false c2222)
            refine VC.cond_f rfl ?_
            refine VC.skip ?_
            refine VN.then ?_
            refine VC.seq ?_
            refine VC.region ?_
            refine VL.va (op_move rfl (ltn rfl)) rfl ?_
            refine VL.va (op_nilCheck rfl (ltn rfl)) rfl ?_
            refine VL.va (op_load_own (sz := 6) (o := 3) 0 t2201.toNat 1 rfl rfl (get_map hx2214) TI3 rfl (by decide) (ltn rfl)) rfl ?_
            refine VL.va (op_move rfl (ltn rfl)) rfl ?_
            refine VL.va (op_ari64 rfl rfl rfl (ltn rfl)) rfl ?_
            refine VL.va (op_nilCheck rfl (ltn rfl)) rfl ?_
            refine VL.step1 (o_store_own (sz := 6) (o := 3) (es3 := List.map enc32 (r2209.set t2201.toNat (⟨x2214.f0, x2214.f1, x2214.f2, wrap64 (x2214.f3 - a2), x2214.f4, x2214.f5⟩ : S32))) 0 t2201.toNat 1 lenm (setm rfl) rfl rfl rfl (get_map hx2214) TI3 (.c rfl) rfl (len rfl)) rfl ?_
            refine VL.done ?_
            refine VN.then ?_
            refine VC.seq ?_
            refine VC.region ?_
            refine VL.va (op_move rfl (ltn rfl)) rfl ?_
            refine VL.va (op_nilCheck rfl (ltn rfl)) rfl ?_
            refine VL.va (op_load_own (sz := 6) (o := 4) 0 t2201.toNat 1 rfl rfl (get_map (set_get hx2214)) TI3 rfl (by decide) (ltn rfl)) rfl ?_
            refine VL.va (op_move rfl (ltn rfl)) rfl ?_
            refine VL.va (op_ari64 rfl rfl rfl (ltn rfl)) rfl ?_
            refine VL.va (op_nilCheck rfl (ltn rfl)) rfl ?_
            refine VL.step1 (o_store_own (sz := 6) (o := 4) (es3 := List.map enc32 ((r2209.set t2201.toNat (⟨x2214.f0, x2214.f1, x2214.f2, wrap64 (x2214.f3 - a2), x2214.f4, x2214.f5⟩ : S32)).set t2201.toNat (⟨x2214.f0, x2214.f1, x2214.f2, wrap64 (x2214.f3 - a2), wrap64 (x2214.f4 + a2), x2214.f5⟩ : S32))) 0 t2201.toNat 1 (by simp) (setm rfl) rfl rfl rfl (get_map (set_get hx2214)) TI3 (.c rfl) rfl (len rfl)) rfl ?_
            refine VL.done ?_
            refine VN.then ?_
            refine VC.seq ?_
            refine VC.region ?_
            refine VL.va (op_move rfl (ltn rfl)) rfl ?_
            refine VL.va (op_assign rfl (ltn rfl)) rfl ?_
            refine VL.va (op_assign rfl (ltn rfl)) rfl ?_
            refine VL.done ?_
            refine VN.then ?_
            refine VC.ret ?_
            simp only [Option.some.injEq, Prod.mk.injEq] at h
            obtain ⟨rfl, rfl⟩ := h
            exact VR.fn (rs := [.tmp 8, .tmp 9]) [] [((.slice (some ⟨g2215, 0, none⟩) r2209.length n2216), 33, 6, ((r2209.set t2201.toNat (⟨x2214.f0, x2214.f1, x2214.f2, wrap64 (x2214.f3 - a2), x2214.f4, x2214.f5⟩ : S32)).set t2201.toNat (⟨x2214.f0, x2214.f1, x2214.f2, wrap64 (x2214.f3 - a2), wrap64 (x2214.f4 + a2), x2214.f5⟩ : S32)).map enc32)] [0] rfl (.tmp rfl (.tmp rfl .nil)) ⟨(.slice (some ⟨g2215, 0, none⟩) r2209.length n2216), rfl, rfl, rfl⟩ trivial rfl (by decide)
        · rw [if_neg c2213] at h; cases h
      · rw [if_neg c2208] at h
        obtain rfl := Bool.eq_false_iff.2 c2208
        refine VL.va (op_not rfl rfl (ltn rfl)) rfl ?_
        refine VL.done ?_
        refine VN.then ?_
        refine VC.cond_t rfl ?_
        refine VC.seq ?_
        refine VC.region ?_
        refine VL.va (op_assign rfl (ltn rfl)) rfl ?_
        refine VL.va (op_assign rfl (ltn rfl)) rfl ?_
        refine VL.done ?_
        refine VN.then ?_
        refine VC.ret ?_
        refine VR.then ?_
        simp only [Option.some.injEq, Prod.mk.injEq] at h
        obtain ⟨rfl, rfl⟩ := h
        refine VR.nilRow' 33 6 ?_
        exact VR.fn (rs := [.tmp 8, .tmp 9]) [] [((.slice none 0 0), 33, 6, ([] : List S32).map enc32)] [0] rfl (.tmp rfl (.tmp rfl .nil)) ⟨(.slice none 0 0), rfl, rfl, rfl⟩ trivial rfl (by decide)
    · rw [if_neg c2200] at h
      obtain rfl := Bool.eq_false_iff.2 c2200
      refine VL.va (op_not rfl rfl (ltn rfl)) rfl ?_
      refine VL.va (op_pick rfl rfl (ltn rfl)) rfl ?_
      refine VL.done ?_
      refine VN.then ?_
      refine VC.cond_t rfl ?_
      refine VC.seq ?_
      refine VC.region ?_
      refine VL.va (op_assign rfl (ltn rfl)) rfl ?_
      refine VL.va (op_assign rfl (ltn rfl)) rfl ?_
      refine VL.done ?_
      refine VN.then ?_
      refine VC.ret ?_
      refine VR.then ?_
      simp only [Option.some.injEq, Prod.mk.injEq] at h
      obtain ⟨rfl, rfl⟩ := h
      refine VR.nilRow' 33 6 ?_
      exact VR.fn (rs := [.tmp 8, .tmp 9]) [] [((.slice none 0 0), 33, 6, ([] : List S32).map enc32)] [0] rfl (.tmp rfl (.tmp rfl .nil)) ⟨(.slice none 0 0), rfl, rfl, rfl⟩ trivial rfl (by decide)
  · rw [if_neg c2197] at h
    obtain rfl := Bool.eq_false_iff.2 c2197
    refine VL.va (op_not rfl rfl (ltn rfl)) rfl ?_
    refine VL.va (op_move rfl (ltn rfl)) rfl ?_
    refine VL.un rfl rfl (ltn rfl) ?_
    refine VL.un rfl rfl (ltn rfl) ?_
    refine VL.un rfl rfl (ltn rfl) ?_
    refine VL.va (op_pick rfl rfl (ltn rfl)) rfl ?_
    refine VL.done ?_
    refine VN.then ?_
    refine VC.cond_t rfl ?_
    refine VC.seq ?_
    refine VC.region ?_
    refine VL.va (op_assign rfl (ltn rfl)) rfl ?_
    refine VL.va (op_assign rfl (ltn rfl)) rfl ?_
    refine VL.done ?_
    refine VN.then ?_
    refine VC.ret ?_
    refine VR.then ?_
    simp only [Option.some.injEq, Prod.mk.injEq] at h
    obtain ⟨rfl, rfl⟩ := h
    refine VR.nilRow' 33 6 ?_
    exact VR.fn (rs := [.tmp 8, .tmp 9]) [] [((.slice none 0 0), 33, 6, ([] : List S32).map enc32)] [0] rfl (.tmp rfl (.tmp rfl .nil)) ⟨(.slice none 0 0), rfl, rfl, rfl⟩ trivial rfl (by decide)
set_option maxHeartbeats 4000000 in
set_option maxRecDepth 100000 in
theorem stock_Ship.ok (k : Nat) (l0 : List S32) (a1 : ByteArray) (a2 : Int) (v0 : Value) (r1 : List S32) (r2 : Int) (h : stock_Ship.f k l0 a1 a2 = some (r1, r2)) :
    VCalls Try.prog 16 [v0, .string a1, .int .i64 a2] [.row v0 6 (l0.map enc32)] (fun v G own => ∃ w0 : Value, v = .tuple #[w0, .int .i64 r2] ∧ G = [] ∧ own = [(w0, 33, 6, r1.map enc32)]) := by
  refine VCalls.intro Try.func16 rfl (len rfl) fun E hC => ?_
  unfold stock_Ship.f at h
  refine VC.seq ?_
  refine VC.region ?_
  refine VL.va (op_assign rfl (ltn rfl)) rfl ?_
  refine VL.va (op_assign rfl (ltn rfl)) rfl ?_
  refine VL.done ?_
  refine VN.then ?_
  refine VC.seq ?_
  refine VC.region ?_
  refine VL.va (op_move rfl (ltn rfl)) rfl ?_
  refine VL.va (op_move rfl (ltn rfl)) rfl ?_
  refine VL.va (op_move rfl (ltn rfl)) rfl ?_
  replace h := Option.bind_eq_some_iff.1 h
  obtain ⟨⟨r2231, t2232⟩, hA2233, h⟩ := h
  dsimp only at h
  refine VL.sC (o_call0 FO28 (stock_move_s45.ok k l0 a1 a2 v0 r2231 t2232 hA2233) rfl rfl (ltn rfl) (All_of (.cons (List.mem_of_getElem? (i := 0) rfl) .nil))) rfl ?_
  rintro _ _ _ ⟨v2235, rfl, rfl, rfl⟩
  refine VL.va (op_extract rfl rfl (ltn rfl)) rfl ?_
  refine VL.va (op_extract rfl rfl (ltn rfl)) rfl ?_
  refine VL.va (op_assign rfl (ltn rfl)) rfl ?_
  refine VL.va (op_assign rfl (ltn rfl)) rfl ?_
  refine VL.done ?_
  refine VN.then ?_
  refine VC.ret ?_
  simp only [Option.some.injEq, Prod.mk.injEq] at h
  obtain ⟨rfl, rfl⟩ := h
  exact VR.fn (rs := [.tmp 6, .tmp 7]) [] [(v2235, 33, 6, r2231.map enc32)] [0] rfl (.tmp rfl (.tmp rfl .nil)) ⟨v2235, rfl, rfl, rfl⟩ trivial rfl (by decide)
set_option maxHeartbeats 4000000 in
set_option maxRecDepth 100000 in
theorem tarryref08_Same.ok (k : Nat) (l0 : List S32) (l1 : List S32) (v0 : Value) (v1 : Value) (r1 : Bool) (h : tarryref08_Same.f k l0 l1 = some r1) :
    VCalls Try.prog 12 [v0, v1] [.row v0 6 (l0.map enc32), .row v1 6 (l1.map enc32)] (fun v G own => v = .bool r1 ∧ G = [] ∧ own = []) := by
  refine VCalls.intro Try.func12 rfl (len rfl) fun E hC => ?_
  unfold tarryref08_Same.f at h
  refine VC.seq ?_
  refine VC.region ?_
  refine VL.va (op_assign rfl (ltn rfl)) rfl ?_
  refine VL.done ?_
  refine VN.then ?_
  refine VC.seq ?_
  refine VC.seq ?_
  refine VC.region ?_
  refine VL.va (op_move rfl (ltn rfl)) rfl ?_
  refine VL.va (op_len (m := l0.length) 0 lenm Try.underlying23 rfl rfl (ltn rfl)) rfl ?_
  refine VL.va (op_move rfl (ltn rfl)) rfl ?_
  refine VL.va (op_len (m := l1.length) 1 lenm Try.underlying23 rfl rfl (ltn rfl)) rfl ?_
  refine VL.letter (((l0.length : Int) != (l1.length : Int))) fun b2255 hb2255 => ?_
  refine VL.va (op_cmp rfl rfl (congrArg some hb2255) (ltn rfl)) rfl ?_
  refine VL.done ?_
  refine VN.then ?_
  by_cases c2256 : (l0.length : Int) = (l1.length : Int)
  · rw [if_pos c2256] at h
    obtain rfl : b2255 = false := hb2255.symm.trans (bne_eq_false_iff_eq.2 c2256)
    refine VC.cond_f rfl ?_
    refine VC.skip ?_
    refine VN.then ?_
    refine VC.seq ?_
    refine VC.seq ?_
    refine VC.region ?_
    refine VL.va (op_move rfl (ltn rfl)) rfl ?_
    refine VL.va (op_len (m := l0.length) 0 lenm Try.underlying23 rfl rfl (ltn rfl)) rfl ?_
    refine VL.va (op_move rfl (ltn rfl)) rfl ?_
    refine VL.done ?_
    refine VN.then ?_
    refine VC.block ?_
    refine VC.loop1 (fun (i2310 : Int) => ⟨26, [(0, v0), (1, v1), (4, .bool false), (12, .int .i64 (l0.length : Int)), (13, .int .i64 i2310)], [.row v0 6 (l0.map enc32), .row v1 6 (l1.map enc32)], [], []⟩) (fun (ml1 : Nat) (i2310 : Int) => tarryref08_Same.l1 k l0 l1 ml1 i2310 = some r1) k 0 [] [] h ⟨rfl, ⟨rfl, rfl, rfl, rfl, rfl, trivial⟩, ⟨⟨0, rfl⟩, ⟨1, rfl⟩, trivial⟩, rfl, by decide, rfl, by decide⟩ (by intros; simp [tarryref08_Same.l1]) ?_
    clear h
    intro ml1 ihl1 i2310 h
    simp only [tarryref08_Same.l1] at h
    refine VC.seq ?_
    refine VC.region ?_
    refine VL.letter (decide (i2310 < (l0.length : Int))) fun b2324 hb2324 => ?_
    refine VL.va (op_cmp rfl rfl (congrArg some hb2324) (ltn rfl)) rfl ?_
    refine VL.done ?_
    refine VN.then ?_
    refine VC.seq ?_
    by_cases c2326 : i2310 < (l0.length : Int)
    · rw [if_pos c2326] at h
      obtain rfl : b2324 = true := hb2324.symm.trans (decide_eq_true c2326)
      refine VC.cond_t rfl ?_
      refine VC.skip ?_
      refine VN.then ?_
      refine VC.seq ?_
      refine VC.block ?_
      refine VC.seq ?_
      refine VC.region ?_
      refine VL.va (op_move rfl (ltn rfl)) rfl ?_
      refine VL.va (op_assign rfl (ltn rfl)) rfl ?_
      refine VL.done ?_
      refine VN.then ?_
      by_cases c2332 : 0 ≤ i2310
      · rw [if_pos c2332] at h
        replace h := Option.bind_eq_some_iff.1 h
        obtain ⟨x2333, hx2333, h⟩ := h
        replace h := Option.bind_eq_some_iff.1 h
        obtain ⟨x2334, hx2334, h⟩ := h
        refine VC.letter ((!(((x2333.f0 == x2334.f0) && ((x2333.f1 == x2334.f1) && ((x2333.f2 == x2334.f2) && ((x2333.f3 == x2334.f3) && ((x2333.f4 == x2334.f4) && (x2333.f5 == x2334.f5))))))))) fun b2335 hb2335 => ?_
        refine VC.open (m := l0.length) 0 lenm rfl (pos_get hx2333) ?_
        rintro ad2261 n2262 rfl
        refine VC.open (m := l1.length) 1 lenm rfl (pos_get hx2334) ?_
        rintro ad2264 n2265 rfl
        refine VC.join0 (⟨26, [(0, (.slice (some ad2261) l0.length n2262)), (1, (.slice (some ad2264) l1.length n2265)), (4, .bool false), (5, .int .i64 i2310), (12, .int .i64 (l0.length : Int)), (13, .int .i64 i2310), (14, .bool true), (15, .int .i64 i2310), (16, (.slice (some ad2261) l0.length n2262)), (17, .int .i64 i2310), (19, .agg #[.string x2333.f0, .int .i64 x2333.f1, .int .i64 x2333.f2, .int .i64 x2333.f3, .int .i64 x2333.f4, .int .i64 x2333.f5]), (20, (.slice (some ad2264) l1.length n2265)), (21, .int .i64 i2310), (23, .agg #[.string x2334.f0, .int .i64 x2334.f1, .int .i64 x2334.f2, .int .i64 x2334.f3, .int .i64 x2334.f4, .int .i64 x2334.f5]), (24, .bool b2335)], [.row (.slice (some ad2261) l0.length n2262) 6 (l0.map enc32), .row (.slice (some ad2264) l1.length n2265) 6 (l1.map enc32)], [], []⟩) (True) ?_ ?_
        · refine VC.draw ⟨0, [], [.row (.slice (some ad2261) l0.length n2262) 6 (l0.map enc32), .row (.slice (some ad2264) l1.length n2265) 6 (l1.map enc32)], [], []⟩ (by kernel_rfl) rfl (by kernel_rfl) (n := 9) (listed := LB 9 0) ?_
          refine VA.va (i := 0) (listed' := LB 9 1) rfl (op_move rfl (ltn rfl)) rfl (by kernel_rfl) (by kernel_rfl) (by kernel_rfl) (by kernel_rfl) ⟨⟨⟨0, rfl⟩, ⟨1, rfl⟩, trivial⟩, trivial, trivial⟩ (fun _ _ _ h => h) ?_
          refine VA.va (i := 1) (listed' := LB 9 3) rfl (op_move rfl (ltn rfl)) rfl (by kernel_rfl) (by kernel_rfl) (by kernel_rfl) (by kernel_rfl) ⟨⟨⟨0, rfl⟩, ⟨1, rfl⟩, trivial⟩, trivial, trivial⟩ (fun _ _ _ h => h) ?_
          refine VA.va (i := 2) (listed' := LB 9 7) rfl (op_indexAddr Try.underlying23 TI33 rfl rfl c2332 (lt_get c2332 hx2333) rfl (ltn rfl)) rfl (by kernel_rfl) (by kernel_rfl) (by kernel_rfl) (by kernel_rfl) ⟨⟨⟨0, rfl⟩, ⟨1, rfl⟩, trivial⟩, trivial, trivial⟩ (fun _ _ _ h => h) ?_
          refine VA.va (i := 3) (listed' := LB 9 15) rfl (op_load_row (sz := 6) (o := 0) 0 i2310.toNat 6 rfl rfl (get_map hx2333) TI33 rfl (fun h => absurd h (by decide)) (ltn rfl)) rfl (by kernel_rfl) (by kernel_rfl) (by kernel_rfl) (by kernel_rfl) ⟨⟨⟨0, rfl⟩, ⟨1, rfl⟩, trivial⟩, trivial, trivial⟩ (fun _ _ _ h => h) ?_
          refine VA.va (i := 4) (listed' := LB 9 31) rfl (op_move rfl (ltn rfl)) rfl (by kernel_rfl) (by kernel_rfl) (by kernel_rfl) (by kernel_rfl) ⟨⟨⟨0, rfl⟩, ⟨1, rfl⟩, trivial⟩, trivial, trivial⟩ (fun _ _ _ h => h) ?_
          refine VA.va (i := 5) (listed' := LB 9 63) rfl (op_move rfl (ltn rfl)) rfl (by kernel_rfl) (by kernel_rfl) (by kernel_rfl) (by kernel_rfl) ⟨⟨⟨0, rfl⟩, ⟨1, rfl⟩, trivial⟩, trivial, trivial⟩ (fun _ _ _ h => h) ?_
          refine VA.va (i := 6) (listed' := LB 9 127) rfl (op_indexAddr Try.underlying23 TI33 rfl rfl c2332 (lt_get c2332 hx2334) rfl (ltn rfl)) rfl (by kernel_rfl) (by kernel_rfl) (by kernel_rfl) (by kernel_rfl) ⟨⟨⟨0, rfl⟩, ⟨1, rfl⟩, trivial⟩, trivial, trivial⟩ (fun _ _ _ h => h) ?_
          refine VA.va (i := 7) (listed' := LB 9 255) rfl (op_load_row (sz := 6) (o := 0) 1 i2310.toNat 6 rfl rfl (get_map hx2334) TI33 rfl (fun h => absurd h (by decide)) (ltn rfl)) rfl (by kernel_rfl) (by kernel_rfl) (by kernel_rfl) (by kernel_rfl) ⟨⟨⟨0, rfl⟩, ⟨1, rfl⟩, trivial⟩, trivial, trivial⟩ (fun _ _ _ h => h) ?_
          refine VA.va (i := 8) (listed' := LB 9 511) rfl (op_neS rfl rfl EG33 (EQ33 x2333.f0 x2333.f1 x2333.f2 x2333.f3 x2333.f4 x2333.f5 x2334.f0 x2334.f1 x2334.f2 x2334.f3 x2334.f4 x2334.f5) hb2335 (ltn rfl)) rfl (by kernel_rfl) (by kernel_rfl) (by kernel_rfl) (by kernel_rfl) ⟨⟨⟨0, rfl⟩, ⟨1, rfl⟩, trivial⟩, trivial, trivial⟩ (fun _ _ _ h => h) ?_
          refine VA.done (by kernel_rfl) ?_
          exact VN.meet0  [] [] trivial ⟨rfl, ⟨rfl, rfl, rfl, rfl, rfl, rfl, rfl, rfl, rfl, rfl, rfl, rfl, rfl, rfl, rfl, trivial⟩, ⟨⟨0, rfl⟩, ⟨1, rfl⟩, trivial⟩, rfl, by decide, rfl, by decide⟩
        intro _
        by_cases c2336 : (((x2333.f0 == x2334.f0) && ((x2333.f1 == x2334.f1) && ((x2333.f2 == x2334.f2) && ((x2333.f3 == x2334.f3) && ((x2333.f4 == x2334.f4) && (x2333.f5 == x2334.f5))))))) = true
        · rw [if_pos c2336] at h
          obtain rfl : b2335 = false := hb2335.symm.trans (not_t c2336)
          refine VC.cond_f rfl ?_
          refine VC.skip ?_
          refine VN.block ?_
          refine VN.then ?_
          refine VC.region ?_
          refine VL.va (op_ari64 rfl rfl rfl (ltn rfl)) rfl ?_
          refine VL.va (op_move rfl (ltn rfl)) rfl ?_
          refine VL.done ?_
          refine VN.again [] [] (ihl1 (wrap64 (i2310 + 1)) h) ⟨rfl, ⟨rfl, rfl, rfl, rfl, rfl, trivial⟩, ⟨⟨0, rfl⟩, ⟨1, rfl⟩, trivial⟩, rfl, by decide, rfl, by decide⟩
        · rw [if_neg c2336] at h
          obtain rfl : b2335 = true := hb2335.symm.trans (not_f c2336)
          refine VC.cond_t rfl ?_
          refine VC.seq ?_
          refine VC.region ?_
          refine VL.va (op_assign rfl (ltn rfl)) rfl ?_
          refine VL.done ?_
          refine VN.then ?_
          refine VC.ret ?_
          refine VR.block ?_
          refine VR.then ?_
          refine VR.then ?_
          refine VR.block ?_
          refine VR.then ?_
          obtain rfl := Option.some.inj h
          exact VR.fn (rs := [.tmp 4]) [] [] [] rfl (.tmp rfl .nil) ⟨rfl, rfl, rfl⟩ trivial rfl (by decide)
      · rw [if_neg c2332] at h; cases h
    · rw [if_neg c2326] at h
      obtain rfl : b2324 = false := hb2324.symm.trans (decide_eq_false c2326)
      refine VC.cond_f rfl ?_
      refine VC.exit ?_
      refine VX.then ?_
      refine VX.then ?_
      refine VX.hit ?_
      refine VN.then ?_
      refine VC.seq ?_
      refine VC.region ?_
      refine VL.va (op_assign rfl (ltn rfl)) rfl ?_
      refine VL.done ?_
      refine VN.then ?_
      refine VC.ret ?_
      obtain rfl := Option.some.inj h
      exact VR.fn (rs := [.tmp 4]) [] [] [] rfl (.tmp rfl .nil) ⟨rfl, rfl, rfl⟩ trivial rfl (by decide)
  · rw [if_neg c2256] at h
    obtain rfl : b2255 = true := hb2255.symm.trans (bne_iff_ne.2 c2256)
    refine VC.cond_t rfl ?_
    refine VC.seq ?_
    refine VC.region ?_
    refine VL.va (op_assign rfl (ltn rfl)) rfl ?_
    refine VL.done ?_
    refine VN.then ?_
    refine VC.ret ?_
    refine VR.then ?_
    obtain rfl := Option.some.inj h
    exact VR.fn (rs := [.tmp 4]) [] [] [] rfl (.tmp rfl .nil) ⟨rfl, rfl, rfl⟩ trivial rfl (by decide)

end Go.Proofs.Ytibpoajlnloloaa.PStockBack
