/- Written by a program of this repo: what the program's functions do, each as a Lean function, shown of the loaded code; or a statement's row over that; no condition of its own. -/
import Derived.Test.YtibpoajlnloloaaPStockMovesx7
namespace Go.Proofs.Ytibpoajlnloloaa.PStockMoves
open Go Go.RowKit Go.Proofs.YtibpoajlnloloaaV
set_option linter.unusedVariables false
set_option linter.unusedSimpArgs false

set_option maxHeartbeats 4000000 in
set_option maxRecDepth 100000 in
theorem stock_Hold_1.ok  (p0 : Addr)  (h : stock_Hold_1.f = some ()) :
    VCalls Try.prog 29 [.pointer (some p0)] [] (fun v G own => v = .tuple #[.pointer (some (p0.add 2)), .pointer (some (p0.add 3))] ∧ G = [] ∧ own = []) := by
  refine VCalls.intro Try.func29 rfl (len rfl) fun E hC => ?_
  unfold stock_Hold_1.f at h
  refine VC.seq ?_
  refine VC.region ?_
  refine VL.va (op_assign rfl (ltn rfl)) rfl ?_
  refine VL.va (op_assign rfl (ltn rfl)) rfl ?_
  refine VL.done ?_
  refine VN.then ?_
  refine VC.join0 (⟨10, [(2, .pointer (some (p0.add 2))), (3, .pointer (some (p0.add 3)))], [], [], []⟩) (True) ?_ ?_
  · refine VC.draw ⟨0, [], [], [], []⟩ (by kernel_rfl) rfl (by kernel_rfl) (n := 8) (listed := LB 8 0) ?_
    refine VA.va (i := 0) (listed' := LB 8 1) rfl (op_move rfl (ltn rfl)) rfl (by kernel_rfl) (by kernel_rfl) (by kernel_rfl) (by kernel_rfl) ⟨trivial, trivial, trivial⟩ (fun _ _ _ h => h) ?_
    refine VA.va (i := 1) (listed' := LB 8 3) rfl (op_nilCheck rfl (ltn rfl)) rfl (by kernel_rfl) (by kernel_rfl) (by kernel_rfl) (by kernel_rfl) ⟨trivial, trivial, trivial⟩ (fun _ _ _ h => h) ?_
    refine VA.va (i := 2) (listed' := LB 8 7) rfl (op_fieldAddr FI33_2 rfl rfl (ltn rfl)) rfl (by kernel_rfl) (by kernel_rfl) (by kernel_rfl) (by kernel_rfl) ⟨trivial, trivial, trivial⟩ (fun _ _ _ h => h) ?_
    refine VA.va (i := 3) (listed' := LB 8 15) rfl (op_move rfl (ltn rfl)) rfl (by kernel_rfl) (by kernel_rfl) (by kernel_rfl) (by kernel_rfl) ⟨trivial, trivial, trivial⟩ (fun _ _ _ h => h) ?_
    refine VA.va (i := 4) (listed' := LB 8 31) rfl (op_nilCheck rfl (ltn rfl)) rfl (by kernel_rfl) (by kernel_rfl) (by kernel_rfl) (by kernel_rfl) ⟨trivial, trivial, trivial⟩ (fun _ _ _ h => h) ?_
    refine VA.va (i := 5) (listed' := LB 8 63) rfl (op_fieldAddr FI33_3 rfl rfl (ltn rfl)) rfl (by kernel_rfl) (by kernel_rfl) (by kernel_rfl) (by kernel_rfl) ⟨trivial, trivial, trivial⟩ (fun _ _ _ h => h) ?_
    refine VA.va (i := 6) (listed' := LB 8 127) rfl (op_assign rfl (ltn rfl)) rfl (by kernel_rfl) (by kernel_rfl) (by kernel_rfl) (by kernel_rfl) ⟨trivial, trivial, trivial⟩ (fun _ _ _ h => h) ?_
    refine VA.va (i := 7) (listed' := LB 8 255) rfl (op_assign rfl (ltn rfl)) rfl (by kernel_rfl) (by kernel_rfl) (by kernel_rfl) (by kernel_rfl) ⟨trivial, trivial, trivial⟩ (fun _ _ _ h => h) ?_
    refine VA.done (by kernel_rfl) ?_
    exact VN.meet0  [] [] trivial ⟨rfl, ⟨rfl, rfl, trivial⟩, trivial, rfl, by decide, rfl, by decide⟩
  intro _
  refine VC.ret ?_
  exact VR.fn (rs := [.tmp 2, .tmp 3]) [] [] [] rfl (.tmp rfl (.tmp rfl .nil)) ⟨rfl, rfl, rfl⟩ trivial rfl (by decide)
set_option maxHeartbeats 4000000 in
set_option maxRecDepth 100000 in
theorem stock_move.ok (k : Nat) (l0 : List S32) (a1 : ByteArray) (a2 : Int) (v0 : Value) (r1 : List S32) (r2 : Int) (h : stock_move.f k l0 a1 a2 = some (r1, r2)) :
    VCalls Try.prog 28 [v0, .string a1, .int .i64 a2, (.func (.func 29) #[] #[])] [.row v0 6 (l0.map enc32)] (fun v G own => ∃ w0 : Value, v = .tuple #[w0, .int .i64 r2] ∧ G = [] ∧ own = [(w0, 33, 6, r1.map enc32)]) := by
  refine VCalls.intro Try.func28 rfl (len rfl) fun E hC => ?_
  unfold stock_move.f at h
  refine VC.seq ?_
  refine VC.region ?_
  refine VL.va (op_assign rfl (ltn rfl)) rfl ?_
  refine VL.va (op_assign rfl (ltn rfl)) rfl ?_
  refine VL.done ?_
  refine VN.then ?_
  refine VC.seq ?_
  refine VC.seq ?_
  refine VC.region ?_
  refine VL.va (op_move rfl (ltn rfl)) rfl ?_
  replace h := Option.bind_eq_some_iff.1 h
  obtain ⟨t4379, hA4380, h⟩ := h
  refine VL.sC (o_call0 FO9 (stock_Right.ok k l0 v0 t4379 hA4380) rfl rfl (ltn rfl) (All_of (.cons (List.mem_of_getElem? (i := 0) rfl) .nil))) rfl ?_
  rintro _ _ _ ⟨rfl, rfl, rfl⟩
  by_cases c4381 : t4379 = true
  · rw [if_pos c4381] at h
    obtain rfl := c4381
    refine VL.va (op_not rfl rfl (ltn rfl)) rfl ?_
    refine VL.va (op_move rfl (ltn rfl)) rfl ?_
    refine VL.va (op_move rfl (ltn rfl)) rfl ?_
    replace h := Option.bind_eq_some_iff.1 h
    obtain ⟨t4382, hA4383, h⟩ := h
    refine VL.sC (o_call0 FO22 (stock_units.ok a2 t4382 hA4383) rfl rfl (ltn rfl) (All_of .nil)) rfl ?_
    rintro _ _ _ ⟨rfl, rfl, rfl⟩
    by_cases c4384 : t4382 = true
    · rw [if_pos c4384] at h
      obtain rfl := c4384
      refine VL.va (op_not rfl rfl (ltn rfl)) rfl ?_
      refine VL.va (op_pick rfl rfl (ltn rfl)) rfl ?_
      refine VL.done ?_
      refine VN.then ?_
      refine VC.cond_f rfl ?_
      refine VC.skip ?_
      refine VN.then ?_
      refine VC.seq ?_
      refine VC.region ?_
      refine VL.va (op_move rfl (ltn rfl)) rfl ?_
      refine VL.va (op_move rfl (ltn rfl)) rfl ?_
      replace h := Option.bind_eq_some_iff.1 h
      obtain ⟨⟨t4385, t4386⟩, hA4387, h⟩ := h
      dsimp only at h
      refine VL.sC (o_call0 FO24 (stock_at.ok k l0 a1 v0 t4385 t4386 hA4387) rfl rfl (ltn rfl) (All_of (.cons (List.mem_of_getElem? (i := 0) rfl) .nil))) rfl ?_
      rintro _ _ _ ⟨rfl, rfl, rfl⟩
      refine VL.va (op_move rfl (ltn rfl)) rfl ?_
      refine VL.va (op_extract rfl rfl (ltn rfl)) rfl ?_
      refine VL.va (op_extract rfl rfl (ltn rfl)) rfl ?_
      refine VL.va (op_assign rfl (ltn rfl)) rfl ?_
      refine VL.va (op_assign rfl (ltn rfl)) rfl ?_
      refine VL.done ?_
      refine VN.then ?_
      refine VC.seq ?_
      refine VC.seq ?_
      refine VC.region ?_
      refine VL.va (op_move rfl (ltn rfl)) rfl ?_
      by_cases c4392 : t4386 = true
      · rw [if_pos c4392] at h
        obtain rfl := c4392
        refine VL.va (op_not rfl rfl (ltn rfl)) rfl ?_
        refine VL.done ?_
        refine VN.then ?_
        refine VC.cond_f rfl ?_
        refine VC.skip ?_
        refine VN.then ?_
        refine VC.seq ?_
        refine VC.region ?_
        refine VL.va (op_move rfl (ltn rfl)) rfl ?_
        replace h := Option.bind_eq_some_iff.1 h
        obtain ⟨r4393, hA4394, h⟩ := h
        refine VL.sC (o_call_b0 FO25 (slices_Clone_api_Row_api_Row.ok l0 v0 r4393 hA4394) rfl rfl (ltn rfl) (All_of (.cons (.inl (List.mem_of_getElem? (i := 0) rfl)) .nil)) (by rintro _ _ _ ⟨_, rfl, rfl, rfl⟩; rfl)) rfl ?_
        rintro v4396 _ _ ⟨_, rfl, rfl, rfl⟩
        refine VL.va (op_assign rfl (ltn rfl)) rfl ?_
        refine VL.done ?_
        refine VN.then ?_
        refine VC.seq ?_
        refine VC.region ?_
        refine VL.va (op_move rfl (ltn rfl)) rfl ?_
        refine VL.va (op_move rfl (ltn rfl)) rfl ?_
        refine VL.va (op_move rfl (ltn rfl)) rfl ?_
        by_cases c4397 : 0 ≤ t4385
        · rw [if_pos c4397] at h
          replace h := Option.bind_eq_some_iff.1 h
          obtain ⟨x4398, hx4398, h⟩ := h
          refine VL.openR (m := r4393.length) 0 lenm rfl (pos_get hx4398) ?_
          rintro g4399 n4400 rfl
          refine VL.va (op_indexAddr Try.underlying23 TI33 rfl rfl c4397 (lt_get c4397 hx4398) (add_zero_at _ _) (ltn rfl)) rfl ?_
          replace h := Option.bind_eq_some_iff.1 h
          obtain ⟨_, hA4401, h⟩ := h
          refine VL.sC (o_call0 FO29 (stock_Hold_1.ok (⟨g4399, t4385.toNat * 6, none⟩ : Addr) hA4401) rfl rfl (ltn rfl) (All_of .nil)) rfl ?_
          rintro _ _ _ ⟨rfl, rfl, rfl⟩
          refine VL.va (op_move rfl (ltn rfl)) rfl ?_
          refine VL.va (op_extract rfl rfl (ltn rfl)) rfl ?_
          refine VL.va (op_extract rfl rfl (ltn rfl)) rfl ?_
          refine VL.va (op_assign rfl (ltn rfl)) rfl ?_
          refine VL.va (op_assign rfl (ltn rfl)) rfl ?_
          refine VL.done ?_
          refine VN.then ?_
          refine VC.seq ?_
          refine VC.seq ?_
          refine VC.region ?_
          refine VL.va (op_move rfl (ltn rfl)) rfl ?_
          refine VL.va (op_nilCheck rfl (ltn rfl)) rfl ?_
          refine VL.va (op_load_own (sz := 6) (o := 2) 0 t4385.toNat 1 rfl rfl (get_map hx4398) TI3 rfl (by decide) (ltn rfl)) rfl ?_
          refine VL.va (op_move rfl (ltn rfl)) rfl ?_
          refine VL.letter (decide (x4398.f2 < a2)) fun b4405 hb4405 => ?_
          refine VL.va (op_cmp rfl rfl (congrArg some hb4405) (ltn rfl)) rfl ?_
          refine VL.done ?_
          refine VN.then ?_
          by_cases c4406 : x4398.f2 < a2
          · rw [if_pos c4406] at h
            obtain rfl : b4405 = true := hb4405.symm.trans (decide_eq_true c4406)
            refine VC.cond_t rfl ?_
            refine VC.seq ?_
            refine VC.region ?_
            refine VL.va (op_assign rfl (ltn rfl)) rfl ?_
            refine VL.va (op_assign rfl (ltn rfl)) rfl ?_
            refine VL.done ?_
            refine VN.then ?_
            refine VC.ret ?_
            refine VR.then ?_
            simp only [Option.some.injEq, Prod.mk.injEq] at h
            obtain ⟨rfl, rfl⟩ := h
            refine VR.nilRow' 33 6 ?_
            exact VR.fn (rs := [.tmp 8, .tmp 9]) [] [((.slice none 0 0), 33, 6, ([] : List S32).map enc32)] [0] rfl (.tmp rfl (.tmp rfl .nil)) ⟨(.slice none 0 0), rfl, rfl, rfl⟩ trivial rfl (by decide)
          · rw [if_neg c4406] at h
            obtain rfl : b4405 = false := hb4405.symm.trans (decide_eq_false c4406)
            refine VC.cond_f rfl ?_
            refine VC.skip ?_
            refine VN.then ?_
            refine VC.seq ?_
            refine VC.region ?_
            refine VL.va (op_move rfl (ltn rfl)) rfl ?_
            refine VL.va (op_nilCheck rfl (ltn rfl)) rfl ?_
            refine VL.va (op_load_own (sz := 6) (o := 2) 0 t4385.toNat 1 rfl rfl (get_map hx4398) TI3 rfl (by decide) (ltn rfl)) rfl ?_
            refine VL.va (op_move rfl (ltn rfl)) rfl ?_
            refine VL.va (op_ari64 rfl rfl rfl (ltn rfl)) rfl ?_
            refine VL.va (op_nilCheck rfl (ltn rfl)) rfl ?_
            refine VL.step1 (o_store_own (sz := 6) (o := 2) (es3 := List.map enc32 (r4393.set t4385.toNat (⟨x4398.f0, x4398.f1, wrap64 (x4398.f2 - a2), x4398.f3, x4398.f4, x4398.f5⟩ : S32))) 0 t4385.toNat 1 lenm (setm rfl) rfl rfl rfl (get_map hx4398) TI3 (.c rfl) rfl (len rfl)) rfl ?_
            refine VL.done ?_
            refine VN.then ?_
            refine VC.seq ?_
            refine VC.region ?_
            refine VL.va (op_move rfl (ltn rfl)) rfl ?_
            refine VL.va (op_nilCheck rfl (ltn rfl)) rfl ?_
            refine VL.va (op_load_own (sz := 6) (o := 3) 0 t4385.toNat 1 rfl rfl (get_map (set_get hx4398)) TI3 rfl (by decide) (ltn rfl)) rfl ?_
            refine VL.va (op_move rfl (ltn rfl)) rfl ?_
            refine VL.va (op_ari64 rfl rfl rfl (ltn rfl)) rfl ?_
            refine VL.va (op_nilCheck rfl (ltn rfl)) rfl ?_
            refine VL.step1 (o_store_own (sz := 6) (o := 3) (es3 := List.map enc32 ((r4393.set t4385.toNat (⟨x4398.f0, x4398.f1, wrap64 (x4398.f2 - a2), x4398.f3, x4398.f4, x4398.f5⟩ : S32)).set t4385.toNat (⟨x4398.f0, x4398.f1, wrap64 (x4398.f2 - a2), wrap64 (x4398.f3 + a2), x4398.f4, x4398.f5⟩ : S32))) 0 t4385.toNat 1 (by simp) (setm rfl) rfl rfl rfl (get_map (set_get hx4398)) TI3 (.c rfl) rfl (len rfl)) rfl ?_
            refine VL.done ?_
            refine VN.then ?_
            refine VC.seq ?_
            refine VC.region ?_
            refine VL.va (op_move rfl (ltn rfl)) rfl ?_
            refine VL.va (op_assign rfl (ltn rfl)) rfl ?_
            refine VL.va (op_assign rfl (ltn rfl)) rfl ?_
            refine VL.done ?_
            refine VN.then ?_
            refine VC.ret ?_
            simp only [Option.some.injEq, Prod.mk.injEq] at h
            obtain ⟨rfl, rfl⟩ := h
            exact VR.fn (rs := [.tmp 8, .tmp 9]) [] [((.slice (some ⟨g4399, 0, none⟩) r4393.length n4400), 33, 6, ((r4393.set t4385.toNat (⟨x4398.f0, x4398.f1, wrap64 (x4398.f2 - a2), x4398.f3, x4398.f4, x4398.f5⟩ : S32)).set t4385.toNat (⟨x4398.f0, x4398.f1, wrap64 (x4398.f2 - a2), wrap64 (x4398.f3 + a2), x4398.f4, x4398.f5⟩ : S32)).map enc32)] [0] rfl (.tmp rfl (.tmp rfl .nil)) ⟨(.slice (some ⟨g4399, 0, none⟩) r4393.length n4400), rfl, rfl, rfl⟩ trivial rfl (by decide)
        · rw [if_neg c4397] at h; cases h
      · rw [if_neg c4392] at h
        obtain rfl := Bool.eq_false_iff.2 c4392
        refine VL.va (op_not rfl rfl (ltn rfl)) rfl ?_
        refine VL.done ?_
        refine VN.then ?_
        refine VC.cond_t rfl ?_
        refine VC.seq ?_
        refine VC.region ?_
        refine VL.va (op_assign rfl (ltn rfl)) rfl ?_
        refine VL.va (op_assign rfl (ltn rfl)) rfl ?_
        refine VL.done ?_
        refine VN.then ?_
        refine VC.ret ?_
        refine VR.then ?_
        simp only [Option.some.injEq, Prod.mk.injEq] at h
        obtain ⟨rfl, rfl⟩ := h
        refine VR.nilRow' 33 6 ?_
        exact VR.fn (rs := [.tmp 8, .tmp 9]) [] [((.slice none 0 0), 33, 6, ([] : List S32).map enc32)] [0] rfl (.tmp rfl (.tmp rfl .nil)) ⟨(.slice none 0 0), rfl, rfl, rfl⟩ trivial rfl (by decide)
    · rw [if_neg c4384] at h
      obtain rfl := Bool.eq_false_iff.2 c4384
      refine VL.va (op_not rfl rfl (ltn rfl)) rfl ?_
      refine VL.va (op_pick rfl rfl (ltn rfl)) rfl ?_
      refine VL.done ?_
      refine VN.then ?_
      refine VC.cond_t rfl ?_
      refine VC.seq ?_
      refine VC.region ?_
      refine VL.va (op_assign rfl (ltn rfl)) rfl ?_
      refine VL.va (op_assign rfl (ltn rfl)) rfl ?_
      refine VL.done ?_
      refine VN.then ?_
      refine VC.ret ?_
      refine VR.then ?_
      simp only [Option.some.injEq, Prod.mk.injEq] at h
      obtain ⟨rfl, rfl⟩ := h
      refine VR.nilRow' 33 6 ?_
      exact VR.fn (rs := [.tmp 8, .tmp 9]) [] [((.slice none 0 0), 33, 6, ([] : List S32).map enc32)] [0] rfl (.tmp rfl (.tmp rfl .nil)) ⟨(.slice none 0 0), rfl, rfl, rfl⟩ trivial rfl (by decide)
  · rw [if_neg c4381] at h
    obtain rfl := Bool.eq_false_iff.2 c4381
    refine VL.va (op_not rfl rfl (ltn rfl)) rfl ?_
    refine VL.va (op_move rfl (ltn rfl)) rfl ?_
    refine VL.un rfl rfl (ltn rfl) ?_
    refine VL.un rfl rfl (ltn rfl) ?_
    refine VL.un rfl rfl (ltn rfl) ?_
    refine VL.va (op_pick rfl rfl (ltn rfl)) rfl ?_
    refine VL.done ?_
    refine VN.then ?_
    refine VC.cond_t rfl ?_
    refine VC.seq ?_
    refine VC.region ?_
    refine VL.va (op_assign rfl (ltn rfl)) rfl ?_
    refine VL.va (op_assign rfl (ltn rfl)) rfl ?_
    refine VL.done ?_
    refine VN.then ?_
    refine VC.ret ?_
    refine VR.then ?_
    simp only [Option.some.injEq, Prod.mk.injEq] at h
    obtain ⟨rfl, rfl⟩ := h
    refine VR.nilRow' 33 6 ?_
    exact VR.fn (rs := [.tmp 8, .tmp 9]) [] [((.slice none 0 0), 33, 6, ([] : List S32).map enc32)] [0] rfl (.tmp rfl (.tmp rfl .nil)) ⟨(.slice none 0 0), rfl, rfl, rfl⟩ trivial rfl (by decide)
set_option maxHeartbeats 4000000 in
set_option maxRecDepth 100000 in
theorem stock_Hold.ok (k : Nat) (l0 : List S32) (a1 : ByteArray) (a2 : Int) (v0 : Value) (r1 : List S32) (r2 : Int) (h : stock_Hold.f k l0 a1 a2 = some (r1, r2)) :
    VCalls Try.prog 13 [v0, .string a1, .int .i64 a2] [.row v0 6 (l0.map enc32)] (fun v G own => ∃ w0 : Value, v = .tuple #[w0, .int .i64 r2] ∧ G = [] ∧ own = [(w0, 33, 6, r1.map enc32)]) := by
  refine VCalls.intro Try.func13 rfl (len rfl) fun E hC => ?_
  unfold stock_Hold.f at h
  refine VC.seq ?_
  refine VC.region ?_
  refine VL.va (op_assign rfl (ltn rfl)) rfl ?_
  refine VL.va (op_assign rfl (ltn rfl)) rfl ?_
  refine VL.done ?_
  refine VN.then ?_
  refine VC.seq ?_
  refine VC.region ?_
  refine VL.va (op_move rfl (ltn rfl)) rfl ?_
  refine VL.va (op_move rfl (ltn rfl)) rfl ?_
  refine VL.va (op_move rfl (ltn rfl)) rfl ?_
  replace h := Option.bind_eq_some_iff.1 h
  obtain ⟨⟨r4415, t4416⟩, hA4417, h⟩ := h
  dsimp only at h
  refine VL.sC (o_call0 FO28 (stock_move.ok k l0 a1 a2 v0 r4415 t4416 hA4417) rfl rfl (ltn rfl) (All_of (.cons (List.mem_of_getElem? (i := 0) rfl) .nil))) rfl ?_
  rintro _ _ _ ⟨v4419, rfl, rfl, rfl⟩
  refine VL.va (op_extract rfl rfl (ltn rfl)) rfl ?_
  refine VL.va (op_extract rfl rfl (ltn rfl)) rfl ?_
  refine VL.va (op_assign rfl (ltn rfl)) rfl ?_
  refine VL.va (op_assign rfl (ltn rfl)) rfl ?_
  refine VL.done ?_
  refine VN.then ?_
  refine VC.ret ?_
  simp only [Option.some.injEq, Prod.mk.injEq] at h
  obtain ⟨rfl, rfl⟩ := h
  exact VR.fn (rs := [.tmp 6, .tmp 7]) [] [(v4419, 33, 6, r4415.map enc32)] [0] rfl (.tmp rfl (.tmp rfl .nil)) ⟨v4419, rfl, rfl, rfl⟩ trivial rfl (by decide)
set_option maxHeartbeats 4000000 in
set_option maxRecDepth 100000 in
theorem tarrylaw08_alive.ok (k : Nat)   (r1 : Bool) (h : tarrylaw08_alive.f k = some r1) :
    VCalls Try.prog 10 [] [] (fun v G own => v = .bool r1 ∧ G = [] ∧ own = []) := by
  refine VCalls.intro Try.func10 rfl (len rfl) fun E hC => ?_
  unfold tarrylaw08_alive.f at h
  refine VC.seq ?_
  refine VC.region ?_
  refine VL.va (op_assign rfl (ltn rfl)) rfl ?_
  refine VL.done ?_
  refine VN.then ?_
  refine VC.seq ?_
  refine VC.region ?_
  refine VL.nilFact' 6 ?_
  replace h := Option.bind_eq_some_iff.1 h
  obtain ⟨⟨r4352, t4353⟩, hA4354, h⟩ := h
  dsimp only at h
  refine VL.sC (o_call0 FO8 (stock_Receive.ok k [] (⟨#[99, 117, 112]⟩ : ByteArray) 5 (.slice none 0 0) r4352 t4353 hA4354) rfl rfl (ltn rfl) (All_of (.cons (List.mem_of_getElem? (i := 0) rfl) .nil))) rfl ?_
  rintro _ _ _ ⟨v4356, rfl, rfl, rfl⟩
  refine VL.va (op_move rfl (ltn rfl)) rfl ?_
  refine VL.va (op_extract rfl rfl (ltn rfl)) rfl ?_
  refine VL.va (op_extract rfl rfl (ltn rfl)) rfl ?_
  refine VL.va (op_assign rfl (ltn rfl)) rfl ?_
  refine VL.va (op_assign rfl (ltn rfl)) rfl ?_
  refine VL.done ?_
  refine VN.then ?_
  refine VC.seq ?_
  refine VC.region ?_
  refine VL.va (op_move rfl (ltn rfl)) rfl ?_
  replace h := Option.bind_eq_some_iff.1 h
  obtain ⟨⟨r4420, t4421⟩, hA4422, h⟩ := h
  dsimp only at h
  refine VL.sC (o_call_b0 FO13 (stock_Hold.ok k r4352 (⟨#[99, 117, 112]⟩ : ByteArray) 2 v4356 r4420 t4421 hA4422) rfl rfl (ltn rfl) (All_of (.cons (.inr (.inl ⟨_, List.mem_of_getElem? (i := 0) rfl, rfl⟩)) .nil)) (by rintro _ _ _ ⟨v4424, rfl, rfl, rfl⟩; rfl)) rfl ?_
  rintro _ _ _ ⟨v4424, rfl, rfl, rfl⟩
  refine VL.va (op_move rfl (ltn rfl)) rfl ?_
  refine VL.va (op_extract rfl rfl (ltn rfl)) rfl ?_
  refine VL.va (op_extract rfl rfl (ltn rfl)) rfl ?_
  refine VL.va (op_assign rfl (ltn rfl)) rfl ?_
  refine VL.va (op_assign rfl (ltn rfl)) rfl ?_
  refine VL.done ?_
  refine VN.then ?_
  refine VC.seq ?_
  refine VC.region ?_
  refine VL.va (op_move rfl (ltn rfl)) rfl ?_
  refine VL.letter ((t4353 == 0)) fun b4435 hb4435 => ?_
  refine VL.va (op_cmp rfl rfl (congrArg some hb4435) (ltn rfl)) rfl ?_
  refine VL.va (op_move rfl (ltn rfl)) rfl ?_
  by_cases c4436 : t4353 = 0
  · rw [if_pos c4436] at h
    obtain rfl : b4435 = true := hb4435.symm.trans (beq_iff_eq.2 c4436)
    refine VL.va (op_move rfl (ltn rfl)) rfl ?_
    refine VL.letter ((t4421 == 0)) fun b4437 hb4437 => ?_
    refine VL.va (op_cmp rfl rfl (congrArg some hb4437) (ltn rfl)) rfl ?_
    refine VL.va (op_pick rfl rfl (ltn rfl)) rfl ?_
    refine VL.va (op_move rfl (ltn rfl)) rfl ?_
    by_cases c4438 : t4421 = 0
    · rw [if_pos c4438] at h
      obtain rfl : b4437 = true := hb4437.symm.trans (beq_iff_eq.2 c4438)
      refine VL.va (op_move rfl (ltn rfl)) rfl ?_
      refine VL.va (op_len_own (m := r4420.length) 0 lenm Try.underlying23 rfl rfl (ltn rfl)) rfl ?_
      refine VL.letter (((r4420.length : Int) == 1)) fun b4439 hb4439 => ?_
      refine VL.va (op_cmp rfl rfl (congrArg some hb4439) (ltn rfl)) rfl ?_
      refine VL.va (op_pick rfl rfl (ltn rfl)) rfl ?_
      refine VL.va (op_move rfl (ltn rfl)) rfl ?_
      by_cases c4440 : (r4420.length : Int) = 1
      · rw [if_pos c4440] at h
        obtain rfl : b4439 = true := hb4439.symm.trans (beq_iff_eq.2 c4440)
        refine VL.va (op_move rfl (ltn rfl)) rfl ?_
        replace h := Option.bind_eq_some_iff.1 h
        obtain ⟨x4441, hx4441, h⟩ := h
        refine VL.openR (m := r4420.length) 0 lenm rfl (pos_get hx4441) ?_
        rintro g4442 n4443 rfl
        refine VL.va (op_indexAddr Try.underlying23 TI33 rfl rfl (by decide) (lt_get (by decide) hx4441) (add_zero_at _ _) (ltn rfl)) rfl ?_
        refine VL.va (op_load_own (sz := 6) (o := 0) 0 0 6 rfl rfl (get_map hx4441) TI33 rfl (fun h => absurd h (by decide)) (ltn rfl)) rfl ?_
        refine VL.va (op_build (vals := [(0, .string (⟨#[99, 117, 112]⟩ : ByteArray)), (1, .int .i64 5), (2, .int .i64 3), (3, .int .i64 2)]) (vcs := [(0, [.string (⟨#[99, 117, 112]⟩ : ByteArray)]), (1, [.int .i64 5]), (2, [.int .i64 3]), (3, [.int .i64 2])]) (cells := [.string (⟨#[99, 117, 112]⟩ : ByteArray), .int .i64 5, .int .i64 3, .int .i64 2, .int .i64 0, .int .i64 0]) SI33 rfl (.cons ⟨rfl, (.c rfl)⟩ (.cons ⟨rfl, (.c rfl)⟩ (.cons ⟨rfl, (.c rfl)⟩ (.cons ⟨rfl, (.c rfl)⟩ .nil)))) (by kernel_rfl) (ltn rfl)) rfl ?_
        refine VL.letter ((((x4441.f0 == (⟨#[99, 117, 112]⟩ : ByteArray)) && ((x4441.f1 == 5) && ((x4441.f2 == 3) && ((x4441.f3 == 2) && ((x4441.f4 == 0) && (x4441.f5 == 0)))))))) fun b4444 hb4444 => ?_
        refine VL.va (op_eqS rfl rfl EG33 (EQ33 x4441.f0 x4441.f1 x4441.f2 x4441.f3 x4441.f4 x4441.f5 (⟨#[99, 117, 112]⟩ : ByteArray) 5 3 2 0 0) hb4444 (ltn rfl)) rfl ?_
        refine VL.va (op_pick rfl rfl (ltn rfl)) rfl ?_
        refine VL.va (op_assign rfl (ltn rfl)) rfl ?_
        refine VL.done ?_
        refine VN.then ?_
        refine VC.ret ?_
        obtain rfl := Option.some.inj h
        subst hb4444
        exact VR.fn (rs := [.tmp 0]) [] [] [] rfl (.tmp rfl .nil) ⟨rfl, rfl, rfl⟩ trivial rfl (by decide)
      · rw [if_neg c4440] at h
        obtain rfl : b4439 = false := hb4439.symm.trans (beq_eq_false_iff_ne.2 c4440)
        refine VL.un rfl rfl (ltn rfl) ?_
        refine VL.un rfl rfl (ltn rfl) ?_
        refine VL.un rfl rfl (ltn rfl) ?_
        refine VL.un rfl rfl (ltn rfl) ?_
        refine VL.un rfl rfl (ltn rfl) ?_
        refine VL.va (op_pick rfl rfl (ltn rfl)) rfl ?_
        refine VL.va (op_assign rfl (ltn rfl)) rfl ?_
        refine VL.done ?_
        refine VN.then ?_
        refine VC.ret ?_
        obtain rfl := Option.some.inj h
        exact VR.fn (rs := [.tmp 0]) [] [] [] rfl (.tmp rfl .nil) ⟨rfl, rfl, rfl⟩ trivial rfl (by decide)
    · rw [if_neg c4438] at h
      obtain rfl : b4437 = false := hb4437.symm.trans (beq_eq_false_iff_ne.2 c4438)
      refine VL.un rfl rfl (ltn rfl) ?_
      refine VL.un rfl rfl (ltn rfl) ?_
      refine VL.un rfl rfl (ltn rfl) ?_
      refine VL.va (op_pick rfl rfl (ltn rfl)) rfl ?_
      refine VL.va (op_move rfl (ltn rfl)) rfl ?_
      refine VL.un rfl rfl (ltn rfl) ?_
      refine VL.un rfl rfl (ltn rfl) ?_
      refine VL.un rfl rfl (ltn rfl) ?_
      refine VL.un rfl rfl (ltn rfl) ?_
      refine VL.un rfl rfl (ltn rfl) ?_
      refine VL.va (op_pick rfl rfl (ltn rfl)) rfl ?_
      refine VL.va (op_assign rfl (ltn rfl)) rfl ?_
      refine VL.done ?_
      refine VN.then ?_
      refine VC.ret ?_
      obtain rfl := Option.some.inj h
      exact VR.fn (rs := [.tmp 0]) [] [] [] rfl (.tmp rfl .nil) ⟨rfl, rfl, rfl⟩ trivial rfl (by decide)
  · rw [if_neg c4436] at h
    obtain rfl : b4435 = false := hb4435.symm.trans (beq_eq_false_iff_ne.2 c4436)
    refine VL.un rfl rfl (ltn rfl) ?_
    refine VL.un rfl rfl (ltn rfl) ?_
    refine VL.va (op_pick rfl rfl (ltn rfl)) rfl ?_
    refine VL.va (op_move rfl (ltn rfl)) rfl ?_
    refine VL.un rfl rfl (ltn rfl) ?_
    refine VL.un rfl rfl (ltn rfl) ?_
    refine VL.un rfl rfl (ltn rfl) ?_
    refine VL.va (op_pick rfl rfl (ltn rfl)) rfl ?_
    refine VL.va (op_move rfl (ltn rfl)) rfl ?_
    refine VL.un rfl rfl (ltn rfl) ?_
    refine VL.un rfl rfl (ltn rfl) ?_
    refine VL.un rfl rfl (ltn rfl) ?_
    refine VL.un rfl rfl (ltn rfl) ?_
    refine VL.un rfl rfl (ltn rfl) ?_
    refine VL.va (op_pick rfl rfl (ltn rfl)) rfl ?_
    refine VL.va (op_assign rfl (ltn rfl)) rfl ?_
    refine VL.done ?_
    refine VN.then ?_
    refine VC.ret ?_
    obtain rfl := Option.some.inj h
    exact VR.fn (rs := [.tmp 0]) [] [] [] rfl (.tmp rfl .nil) ⟨rfl, rfl, rfl⟩ trivial rfl (by decide)
set_option maxHeartbeats 4000000 in
set_option maxRecDepth 100000 in
theorem stock_Release_1.ok  (p0 : Addr)  (h : stock_Release_1.f = some ()) :
    VCalls Try.prog 30 [.pointer (some p0)] [] (fun v G own => v = .tuple #[.pointer (some (p0.add 3)), .pointer (some (p0.add 2))] ∧ G = [] ∧ own = []) := by
  refine VCalls.intro Try.func30 rfl (len rfl) fun E hC => ?_
  unfold stock_Release_1.f at h
  refine VC.seq ?_
  refine VC.region ?_
  refine VL.va (op_assign rfl (ltn rfl)) rfl ?_
  refine VL.va (op_assign rfl (ltn rfl)) rfl ?_
  refine VL.done ?_
  refine VN.then ?_
  refine VC.join0 (⟨10, [(2, .pointer (some (p0.add 3))), (3, .pointer (some (p0.add 2)))], [], [], []⟩) (True) ?_ ?_
  · refine VC.draw ⟨0, [], [], [], []⟩ (by kernel_rfl) rfl (by kernel_rfl) (n := 8) (listed := LB 8 0) ?_
    refine VA.va (i := 0) (listed' := LB 8 1) rfl (op_move rfl (ltn rfl)) rfl (by kernel_rfl) (by kernel_rfl) (by kernel_rfl) (by kernel_rfl) ⟨trivial, trivial, trivial⟩ (fun _ _ _ h => h) ?_
    refine VA.va (i := 1) (listed' := LB 8 3) rfl (op_nilCheck rfl (ltn rfl)) rfl (by kernel_rfl) (by kernel_rfl) (by kernel_rfl) (by kernel_rfl) ⟨trivial, trivial, trivial⟩ (fun _ _ _ h => h) ?_
    refine VA.va (i := 2) (listed' := LB 8 7) rfl (op_fieldAddr FI33_3 rfl rfl (ltn rfl)) rfl (by kernel_rfl) (by kernel_rfl) (by kernel_rfl) (by kernel_rfl) ⟨trivial, trivial, trivial⟩ (fun _ _ _ h => h) ?_
    refine VA.va (i := 3) (listed' := LB 8 15) rfl (op_move rfl (ltn rfl)) rfl (by kernel_rfl) (by kernel_rfl) (by kernel_rfl) (by kernel_rfl) ⟨trivial, trivial, trivial⟩ (fun _ _ _ h => h) ?_
    refine VA.va (i := 4) (listed' := LB 8 31) rfl (op_nilCheck rfl (ltn rfl)) rfl (by kernel_rfl) (by kernel_rfl) (by kernel_rfl) (by kernel_rfl) ⟨trivial, trivial, trivial⟩ (fun _ _ _ h => h) ?_
    refine VA.va (i := 5) (listed' := LB 8 63) rfl (op_fieldAddr FI33_2 rfl rfl (ltn rfl)) rfl (by kernel_rfl) (by kernel_rfl) (by kernel_rfl) (by kernel_rfl) ⟨trivial, trivial, trivial⟩ (fun _ _ _ h => h) ?_
    refine VA.va (i := 6) (listed' := LB 8 127) rfl (op_assign rfl (ltn rfl)) rfl (by kernel_rfl) (by kernel_rfl) (by kernel_rfl) (by kernel_rfl) ⟨trivial, trivial, trivial⟩ (fun _ _ _ h => h) ?_
    refine VA.va (i := 7) (listed' := LB 8 255) rfl (op_assign rfl (ltn rfl)) rfl (by kernel_rfl) (by kernel_rfl) (by kernel_rfl) (by kernel_rfl) ⟨trivial, trivial, trivial⟩ (fun _ _ _ h => h) ?_
    refine VA.done (by kernel_rfl) ?_
    exact VN.meet0  [] [] trivial ⟨rfl, ⟨rfl, rfl, trivial⟩, trivial, rfl, by decide, rfl, by decide⟩
  intro _
  refine VC.ret ?_
  exact VR.fn (rs := [.tmp 2, .tmp 3]) [] [] [] rfl (.tmp rfl (.tmp rfl .nil)) ⟨rfl, rfl, rfl⟩ trivial rfl (by decide)
set_option maxHeartbeats 4000000 in
set_option maxRecDepth 100000 in
theorem stock_move_s51.ok (k : Nat) (l0 : List S32) (a1 : ByteArray) (a2 : Int) (v0 : Value) (r1 : List S32) (r2 : Int) (h : stock_move_s51.f k l0 a1 a2 = some (r1, r2)) :
    VCalls Try.prog 28 [v0, .string a1, .int .i64 a2, (.func (.func 30) #[] #[])] [.row v0 6 (l0.map enc32)] (fun v G own => ∃ w0 : Value, v = .tuple #[w0, .int .i64 r2] ∧ G = [] ∧ own = [(w0, 33, 6, r1.map enc32)]) := by
  refine VCalls.intro Try.func28 rfl (len rfl) fun E hC => ?_
  unfold stock_move_s51.f at h
  refine VC.seq ?_
  refine VC.region ?_
  refine VL.va (op_assign rfl (ltn rfl)) rfl ?_
  refine VL.va (op_assign rfl (ltn rfl)) rfl ?_
  refine VL.done ?_
  refine VN.then ?_
  refine VC.seq ?_
  refine VC.seq ?_
  refine VC.region ?_
  refine VL.va (op_move rfl (ltn rfl)) rfl ?_
  replace h := Option.bind_eq_some_iff.1 h
  obtain ⟨t4522, hA4523, h⟩ := h
  refine VL.sC (o_call0 FO9 (stock_Right.ok k l0 v0 t4522 hA4523) rfl rfl (ltn rfl) (All_of (.cons (List.mem_of_getElem? (i := 0) rfl) .nil))) rfl ?_
  rintro _ _ _ ⟨rfl, rfl, rfl⟩
  by_cases c4524 : t4522 = true
  · rw [if_pos c4524] at h
    obtain rfl := c4524
    refine VL.va (op_not rfl rfl (ltn rfl)) rfl ?_
    refine VL.va (op_move rfl (ltn rfl)) rfl ?_
    refine VL.va (op_move rfl (ltn rfl)) rfl ?_
    replace h := Option.bind_eq_some_iff.1 h
    obtain ⟨t4525, hA4526, h⟩ := h
    refine VL.sC (o_call0 FO22 (stock_units.ok a2 t4525 hA4526) rfl rfl (ltn rfl) (All_of .nil)) rfl ?_
    rintro _ _ _ ⟨rfl, rfl, rfl⟩
    by_cases c4527 : t4525 = true
    · rw [if_pos c4527] at h
      obtain rfl := c4527
      refine VL.va (op_not rfl rfl (ltn rfl)) rfl ?_
      refine VL.va (op_pick rfl rfl (ltn rfl)) rfl ?_
      refine VL.done ?_
      refine VN.then ?_
      refine VC.cond_f rfl ?_
      refine VC.skip ?_
      refine VN.then ?_
      refine VC.seq ?_
      refine VC.region ?_
      refine VL.va (op_move rfl (ltn rfl)) rfl ?_
      refine VL.va (op_move rfl (ltn rfl)) rfl ?_
      replace h := Option.bind_eq_some_iff.1 h
      obtain ⟨⟨t4528, t4529⟩, hA4530, h⟩ := h
      dsimp only at h
      refine VL.sC (o_call0 FO24 (stock_at.ok k l0 a1 v0 t4528 t4529 hA4530) rfl rfl (ltn rfl) (All_of (.cons (List.mem_of_getElem? (i := 0) rfl) .nil))) rfl ?_
      rintro _ _ _ ⟨rfl, rfl, rfl⟩
      refine VL.va (op_move rfl (ltn rfl)) rfl ?_
      refine VL.va (op_extract rfl rfl (ltn rfl)) rfl ?_
      refine VL.va (op_extract rfl rfl (ltn rfl)) rfl ?_
      refine VL.va (op_assign rfl (ltn rfl)) rfl ?_
      refine VL.va (op_assign rfl (ltn rfl)) rfl ?_
      refine VL.done ?_
      refine VN.then ?_
      refine VC.seq ?_
      refine VC.seq ?_
      refine VC.region ?_
      refine VL.va (op_move rfl (ltn rfl)) rfl ?_
      by_cases c4535 : t4529 = true
      · rw [if_pos c4535] at h
        obtain rfl := c4535
        refine VL.va (op_not rfl rfl (ltn rfl)) rfl ?_
        refine VL.done ?_
        refine VN.then ?_
        refine VC.cond_f rfl ?_
        refine VC.skip ?_
        refine VN.then ?_
        refine VC.seq ?_
        refine VC.region ?_
        refine VL.va (op_move rfl (ltn rfl)) rfl ?_
        replace h := Option.bind_eq_some_iff.1 h
        obtain ⟨r4536, hA4537, h⟩ := h
        refine VL.sC (o_call_b0 FO25 (slices_Clone_api_Row_api_Row.ok l0 v0 r4536 hA4537) rfl rfl (ltn rfl) (All_of (.cons (.inl (List.mem_of_getElem? (i := 0) rfl)) .nil)) (by rintro _ _ _ ⟨_, rfl, rfl, rfl⟩; rfl)) rfl ?_
        rintro v4539 _ _ ⟨_, rfl, rfl, rfl⟩
        refine VL.va (op_assign rfl (ltn rfl)) rfl ?_
        refine VL.done ?_
        refine VN.then ?_
        refine VC.seq ?_
        refine VC.region ?_
        refine VL.va (op_move rfl (ltn rfl)) rfl ?_
        refine VL.va (op_move rfl (ltn rfl)) rfl ?_
        refine VL.va (op_move rfl (ltn rfl)) rfl ?_
        by_cases c4540 : 0 ≤ t4528
        · rw [if_pos c4540] at h
          replace h := Option.bind_eq_some_iff.1 h
          obtain ⟨x4541, hx4541, h⟩ := h
          refine VL.openR (m := r4536.length) 0 lenm rfl (pos_get hx4541) ?_
          rintro g4542 n4543 rfl
          refine VL.va (op_indexAddr Try.underlying23 TI33 rfl rfl c4540 (lt_get c4540 hx4541) (add_zero_at _ _) (ltn rfl)) rfl ?_
          replace h := Option.bind_eq_some_iff.1 h
          obtain ⟨_, hA4544, h⟩ := h
          refine VL.sC (o_call0 FO30 (stock_Release_1.ok (⟨g4542, t4528.toNat * 6, none⟩ : Addr) hA4544) rfl rfl (ltn rfl) (All_of .nil)) rfl ?_
          rintro _ _ _ ⟨rfl, rfl, rfl⟩
          refine VL.va (op_move rfl (ltn rfl)) rfl ?_
          refine VL.va (op_extract rfl rfl (ltn rfl)) rfl ?_
          refine VL.va (op_extract rfl rfl (ltn rfl)) rfl ?_
          refine VL.va (op_assign rfl (ltn rfl)) rfl ?_
          refine VL.va (op_assign rfl (ltn rfl)) rfl ?_
          refine VL.done ?_
          refine VN.then ?_
          refine VC.seq ?_
          refine VC.seq ?_
          refine VC.region ?_
          refine VL.va (op_move rfl (ltn rfl)) rfl ?_
          refine VL.va (op_nilCheck rfl (ltn rfl)) rfl ?_
          refine VL.va (op_load_own (sz := 6) (o := 3) 0 t4528.toNat 1 rfl rfl (get_map hx4541) TI3 rfl (by decide) (ltn rfl)) rfl ?_
          refine VL.va (op_move rfl (ltn rfl)) rfl ?_
          refine VL.letter (decide (x4541.f3 < a2)) fun b4548 hb4548 => ?_
          refine VL.va (op_cmp rfl rfl (congrArg some hb4548) (ltn rfl)) rfl ?_
          refine VL.done ?_
          refine VN.then ?_
          by_cases c4549 : x4541.f3 < a2
          · rw [if_pos c4549] at h
            obtain rfl : b4548 = true := hb4548.symm.trans (decide_eq_true c4549)
            refine VC.cond_t rfl ?_
            refine VC.seq ?_
            refine VC.region ?_
            refine VL.va (op_assign rfl (ltn rfl)) rfl ?_
            refine VL.va (op_assign rfl (ltn rfl)) rfl ?_
            refine VL.done ?_
            refine VN.then ?_
            refine VC.ret ?_
            refine VR.then ?_
            simp only [Option.some.injEq, Prod.mk.injEq] at h
            obtain ⟨rfl, rfl⟩ := h
            refine VR.nilRow' 33 6 ?_
            exact VR.fn (rs := [.tmp 8, .tmp 9]) [] [((.slice none 0 0), 33, 6, ([] : List S32).map enc32)] [0] rfl (.tmp rfl (.tmp rfl .nil)) ⟨(.slice none 0 0), rfl, rfl, rfl⟩ trivial rfl (by decide)
          · rw [if_neg c4549] at h
            obtain rfl : b4548 = false := hb4548.symm.trans (decide_eq_false c4549)
            refine VC.cond_f rfl ?_
            refine VC.skip ?_
            refine VN.then ?_
            refine VC.seq ?_
            refine VC.region ?_
            refine VL.va (op_move rfl (ltn rfl)) rfl ?_
            refine VL.va (op_nilCheck rfl (ltn rfl)) rfl ?_
            refine VL.va (op_load_own (sz := 6) (o := 3) 0 t4528.toNat 1 rfl rfl (get_map hx4541) TI3 rfl (by decide) (ltn rfl)) rfl ?_
            refine VL.va (op_move rfl (ltn rfl)) rfl ?_
            refine VL.va (op_ari64 rfl rfl rfl (ltn rfl)) rfl ?_
            refine VL.va (op_nilCheck rfl (ltn rfl)) rfl ?_
            refine VL.step1 (o_store_own (sz := 6) (o := 3) (es3 := List.map enc32 (r4536.set t4528.toNat (⟨x4541.f0, x4541.f1, x4541.f2, wrap64 (x4541.f3 - a2), x4541.f4, x4541.f5⟩ : S32))) 0 t4528.toNat 1 lenm (setm rfl) rfl rfl rfl (get_map hx4541) TI3 (.c rfl) rfl (len rfl)) rfl ?_
            refine VL.done ?_
            refine VN.then ?_
            refine VC.seq ?_
            refine VC.region ?_
            refine VL.va (op_move rfl (ltn rfl)) rfl ?_
            refine VL.va (op_nilCheck rfl (ltn rfl)) rfl ?_
            refine VL.va (op_load_own (sz := 6) (o := 2) 0 t4528.toNat 1 rfl rfl (get_map (set_get hx4541)) TI3 rfl (by decide) (ltn rfl)) rfl ?_
            refine VL.va (op_move rfl (ltn rfl)) rfl ?_
            refine VL.va (op_ari64 rfl rfl rfl (ltn rfl)) rfl ?_
            refine VL.va (op_nilCheck rfl (ltn rfl)) rfl ?_
            refine VL.step1 (o_store_own (sz := 6) (o := 2) (es3 := List.map enc32 ((r4536.set t4528.toNat (⟨x4541.f0, x4541.f1, x4541.f2, wrap64 (x4541.f3 - a2), x4541.f4, x4541.f5⟩ : S32)).set t4528.toNat (⟨x4541.f0, x4541.f1, wrap64 (x4541.f2 + a2), wrap64 (x4541.f3 - a2), x4541.f4, x4541.f5⟩ : S32))) 0 t4528.toNat 1 (by simp) (setm rfl) rfl rfl rfl (get_map (set_get hx4541)) TI3 (.c rfl) rfl (len rfl)) rfl ?_
            refine VL.done ?_
            refine VN.then ?_
            refine VC.seq ?_
            refine VC.region ?_
            refine VL.va (op_move rfl (ltn rfl)) rfl ?_
            refine VL.va (op_assign rfl (ltn rfl)) rfl ?_
            refine VL.va (op_assign rfl (ltn rfl)) rfl ?_
            refine VL.done ?_
            refine VN.then ?_
            refine VC.ret ?_
            simp only [Option.some.injEq, Prod.mk.injEq] at h
            obtain ⟨rfl, rfl⟩ := h
            exact VR.fn (rs := [.tmp 8, .tmp 9]) [] [((.slice (some ⟨g4542, 0, none⟩) r4536.length n4543), 33, 6, ((r4536.set t4528.toNat (⟨x4541.f0, x4541.f1, x4541.f2, wrap64 (x4541.f3 - a2), x4541.f4, x4541.f5⟩ : S32)).set t4528.toNat (⟨x4541.f0, x4541.f1, wrap64 (x4541.f2 + a2), wrap64 (x4541.f3 - a2), x4541.f4, x4541.f5⟩ : S32)).map enc32)] [0] rfl (.tmp rfl (.tmp rfl .nil)) ⟨(.slice (some ⟨g4542, 0, none⟩) r4536.length n4543), rfl, rfl, rfl⟩ trivial rfl (by decide)
        · rw [if_neg c4540] at h; cases h
      · rw [if_neg c4535] at h
        obtain rfl := Bool.eq_false_iff.2 c4535
        refine VL.va (op_not rfl rfl (ltn rfl)) rfl ?_
        refine VL.done ?_
        refine VN.then ?_
        refine VC.cond_t rfl ?_
        refine VC.seq ?_
        refine VC.region ?_
        refine VL.va (op_assign rfl (ltn rfl)) rfl ?_
        refine VL.va (op_assign rfl (ltn rfl)) rfl ?_
        refine VL.done ?_
        refine VN.then ?_
        refine VC.ret ?_
        refine VR.then ?_
        simp only [Option.some.injEq, Prod.mk.injEq] at h
        obtain ⟨rfl, rfl⟩ := h
        refine VR.nilRow' 33 6 ?_
        exact VR.fn (rs := [.tmp 8, .tmp 9]) [] [((.slice none 0 0), 33, 6, ([] : List S32).map enc32)] [0] rfl (.tmp rfl (.tmp rfl .nil)) ⟨(.slice none 0 0), rfl, rfl, rfl⟩ trivial rfl (by decide)
    · rw [if_neg c4527] at h
      obtain rfl := Bool.eq_false_iff.2 c4527
      refine VL.va (op_not rfl rfl (ltn rfl)) rfl ?_
      refine VL.va (op_pick rfl rfl (ltn rfl)) rfl ?_
      refine VL.done ?_
      refine VN.then ?_
      refine VC.cond_t rfl ?_
      refine VC.seq ?_
      refine VC.region ?_
      refine VL.va (op_assign rfl (ltn rfl)) rfl ?_
      refine VL.va (op_assign rfl (ltn rfl)) rfl ?_
      refine VL.done ?_
      refine VN.then ?_
      refine VC.ret ?_
      refine VR.then ?_
      simp only [Option.some.injEq, Prod.mk.injEq] at h
      obtain ⟨rfl, rfl⟩ := h
      refine VR.nilRow' 33 6 ?_
      exact VR.fn (rs := [.tmp 8, .tmp 9]) [] [((.slice none 0 0), 33, 6, ([] : List S32).map enc32)] [0] rfl (.tmp rfl (.tmp rfl .nil)) ⟨(.slice none 0 0), rfl, rfl, rfl⟩ trivial rfl (by decide)
  · rw [if_neg c4524] at h
    obtain rfl := Bool.eq_false_iff.2 c4524
    refine VL.va (op_not rfl rfl (ltn rfl)) rfl ?_
    refine VL.va (op_move rfl (ltn rfl)) rfl ?_
    refine VL.un rfl rfl (ltn rfl) ?_
    refine VL.un rfl rfl (ltn rfl) ?_
    refine VL.un rfl rfl (ltn rfl) ?_
    refine VL.va (op_pick rfl rfl (ltn rfl)) rfl ?_
    refine VL.done ?_
    refine VN.then ?_
    refine VC.cond_t rfl ?_
    refine VC.seq ?_
    refine VC.region ?_
    refine VL.va (op_assign rfl (ltn rfl)) rfl ?_
    refine VL.va (op_assign rfl (ltn rfl)) rfl ?_
    refine VL.done ?_
    refine VN.then ?_
    refine VC.ret ?_
    refine VR.then ?_
    simp only [Option.some.injEq, Prod.mk.injEq] at h
    obtain ⟨rfl, rfl⟩ := h
    refine VR.nilRow' 33 6 ?_
    exact VR.fn (rs := [.tmp 8, .tmp 9]) [] [((.slice none 0 0), 33, 6, ([] : List S32).map enc32)] [0] rfl (.tmp rfl (.tmp rfl .nil)) ⟨(.slice none 0 0), rfl, rfl, rfl⟩ trivial rfl (by decide)
set_option maxHeartbeats 4000000 in
set_option maxRecDepth 100000 in
theorem stock_Release.ok (k : Nat) (l0 : List S32) (a1 : ByteArray) (a2 : Int) (v0 : Value) (r1 : List S32) (r2 : Int) (h : stock_Release.f k l0 a1 a2 = some (r1, r2)) :
    VCalls Try.prog 15 [v0, .string a1, .int .i64 a2] [.row v0 6 (l0.map enc32)] (fun v G own => ∃ w0 : Value, v = .tuple #[w0, .int .i64 r2] ∧ G = [] ∧ own = [(w0, 33, 6, r1.map enc32)]) := by
  refine VCalls.intro Try.func15 rfl (len rfl) fun E hC => ?_
  unfold stock_Release.f at h
  refine VC.seq ?_
  refine VC.region ?_
  refine VL.va (op_assign rfl (ltn rfl)) rfl ?_
  refine VL.va (op_assign rfl (ltn rfl)) rfl ?_
  refine VL.done ?_
  refine VN.then ?_
  refine VC.seq ?_
  refine VC.region ?_
  refine VL.va (op_move rfl (ltn rfl)) rfl ?_
  refine VL.va (op_move rfl (ltn rfl)) rfl ?_
  refine VL.va (op_move rfl (ltn rfl)) rfl ?_
  replace h := Option.bind_eq_some_iff.1 h
  obtain ⟨⟨r4558, t4559⟩, hA4560, h⟩ := h
  dsimp only at h
  refine VL.sC (o_call0 FO28 (stock_move_s51.ok k l0 a1 a2 v0 r4558 t4559 hA4560) rfl rfl (ltn rfl) (All_of (.cons (List.mem_of_getElem? (i := 0) rfl) .nil))) rfl ?_
  rintro _ _ _ ⟨v4562, rfl, rfl, rfl⟩
  refine VL.va (op_extract rfl rfl (ltn rfl)) rfl ?_
  refine VL.va (op_extract rfl rfl (ltn rfl)) rfl ?_
  refine VL.va (op_assign rfl (ltn rfl)) rfl ?_
  refine VL.va (op_assign rfl (ltn rfl)) rfl ?_
  refine VL.done ?_
  refine VN.then ?_
  refine VC.ret ?_
  simp only [Option.some.injEq, Prod.mk.injEq] at h
  obtain ⟨rfl, rfl⟩ := h
  exact VR.fn (rs := [.tmp 6, .tmp 7]) [] [(v4562, 33, 6, r4558.map enc32)] [0] rfl (.tmp rfl (.tmp rfl .nil)) ⟨v4562, rfl, rfl, rfl⟩ trivial rfl (by decide)
set_option maxHeartbeats 4000000 in
set_option maxRecDepth 100000 in
theorem stock_Ship_1.ok  (p0 : Addr)  (h : stock_Ship_1.f = some ()) :
    VCalls Try.prog 31 [.pointer (some p0)] [] (fun v G own => v = .tuple #[.pointer (some (p0.add 3)), .pointer (some (p0.add 4))] ∧ G = [] ∧ own = []) := by
  refine VCalls.intro Try.func31 rfl (len rfl) fun E hC => ?_
  unfold stock_Ship_1.f at h
  refine VC.seq ?_
  refine VC.region ?_
  refine VL.va (op_assign rfl (ltn rfl)) rfl ?_
  refine VL.va (op_assign rfl (ltn rfl)) rfl ?_
  refine VL.done ?_
  refine VN.then ?_
  refine VC.join0 (⟨10, [(2, .pointer (some (p0.add 3))), (3, .pointer (some (p0.add 4)))], [], [], []⟩) (True) ?_ ?_
  · refine VC.draw ⟨0, [], [], [], []⟩ (by kernel_rfl) rfl (by kernel_rfl) (n := 8) (listed := LB 8 0) ?_
    refine VA.va (i := 0) (listed' := LB 8 1) rfl (op_move rfl (ltn rfl)) rfl (by kernel_rfl) (by kernel_rfl) (by kernel_rfl) (by kernel_rfl) ⟨trivial, trivial, trivial⟩ (fun _ _ _ h => h) ?_
    refine VA.va (i := 1) (listed' := LB 8 3) rfl (op_nilCheck rfl (ltn rfl)) rfl (by kernel_rfl) (by kernel_rfl) (by kernel_rfl) (by kernel_rfl) ⟨trivial, trivial, trivial⟩ (fun _ _ _ h => h) ?_
    refine VA.va (i := 2) (listed' := LB 8 7) rfl (op_fieldAddr FI33_3 rfl rfl (ltn rfl)) rfl (by kernel_rfl) (by kernel_rfl) (by kernel_rfl) (by kernel_rfl) ⟨trivial, trivial, trivial⟩ (fun _ _ _ h => h) ?_
    refine VA.va (i := 3) (listed' := LB 8 15) rfl (op_move rfl (ltn rfl)) rfl (by kernel_rfl) (by kernel_rfl) (by kernel_rfl) (by kernel_rfl) ⟨trivial, trivial, trivial⟩ (fun _ _ _ h => h) ?_
    refine VA.va (i := 4) (listed' := LB 8 31) rfl (op_nilCheck rfl (ltn rfl)) rfl (by kernel_rfl) (by kernel_rfl) (by kernel_rfl) (by kernel_rfl) ⟨trivial, trivial, trivial⟩ (fun _ _ _ h => h) ?_
    refine VA.va (i := 5) (listed' := LB 8 63) rfl (op_fieldAddr FI33_4 rfl rfl (ltn rfl)) rfl (by kernel_rfl) (by kernel_rfl) (by kernel_rfl) (by kernel_rfl) ⟨trivial, trivial, trivial⟩ (fun _ _ _ h => h) ?_
    refine VA.va (i := 6) (listed' := LB 8 127) rfl (op_assign rfl (ltn rfl)) rfl (by kernel_rfl) (by kernel_rfl) (by kernel_rfl) (by kernel_rfl) ⟨trivial, trivial, trivial⟩ (fun _ _ _ h => h) ?_
    refine VA.va (i := 7) (listed' := LB 8 255) rfl (op_assign rfl (ltn rfl)) rfl (by kernel_rfl) (by kernel_rfl) (by kernel_rfl) (by kernel_rfl) ⟨trivial, trivial, trivial⟩ (fun _ _ _ h => h) ?_
    refine VA.done (by kernel_rfl) ?_
    exact VN.meet0  [] [] trivial ⟨rfl, ⟨rfl, rfl, trivial⟩, trivial, rfl, by decide, rfl, by decide⟩
  intro _
  refine VC.ret ?_
  exact VR.fn (rs := [.tmp 2, .tmp 3]) [] [] [] rfl (.tmp rfl (.tmp rfl .nil)) ⟨rfl, rfl, rfl⟩ trivial rfl (by decide)
set_option maxHeartbeats 4000000 in
set_option maxRecDepth 100000 in
theorem stock_move_s54.ok (k : Nat) (l0 : List S32) (a1 : ByteArray) (a2 : Int) (v0 : Value) (r1 : List S32) (r2 : Int) (h : stock_move_s54.f k l0 a1 a2 = some (r1, r2)) :
    VCalls Try.prog 28 [v0, .string a1, .int .i64 a2, (.func (.func 31) #[] #[])] [.row v0 6 (l0.map enc32)] (fun v G own => ∃ w0 : Value, v = .tuple #[w0, .int .i64 r2] ∧ G = [] ∧ own = [(w0, 33, 6, r1.map enc32)]) := by
  refine VCalls.intro Try.func28 rfl (len rfl) fun E hC => ?_
  unfold stock_move_s54.f at h
  refine VC.seq ?_
  refine VC.region ?_
  refine VL.va (op_assign rfl (ltn rfl)) rfl ?_
  refine VL.va (op_assign rfl (ltn rfl)) rfl ?_
  refine VL.done ?_
  refine VN.then ?_
  refine VC.seq ?_
  refine VC.seq ?_
  refine VC.region ?_
  refine VL.va (op_move rfl (ltn rfl)) rfl ?_
  replace h := Option.bind_eq_some_iff.1 h
  obtain ⟨t4592, hA4593, h⟩ := h
  refine VL.sC (o_call0 FO9 (stock_Right.ok k l0 v0 t4592 hA4593) rfl rfl (ltn rfl) (All_of (.cons (List.mem_of_getElem? (i := 0) rfl) .nil))) rfl ?_
  rintro _ _ _ ⟨rfl, rfl, rfl⟩
  by_cases c4594 : t4592 = true
  · rw [if_pos c4594] at h
    obtain rfl := c4594
    refine VL.va (op_not rfl rfl (ltn rfl)) rfl ?_
    refine VL.va (op_move rfl (ltn rfl)) rfl ?_
    refine VL.va (op_move rfl (ltn rfl)) rfl ?_
    replace h := Option.bind_eq_some_iff.1 h
    obtain ⟨t4595, hA4596, h⟩ := h
    refine VL.sC (o_call0 FO22 (stock_units.ok a2 t4595 hA4596) rfl rfl (ltn rfl) (All_of .nil)) rfl ?_
    rintro _ _ _ ⟨rfl, rfl, rfl⟩
    by_cases c4597 : t4595 = true
    · rw [if_pos c4597] at h
      obtain rfl := c4597
      refine VL.va (op_not rfl rfl (ltn rfl)) rfl ?_
      refine VL.va (op_pick rfl rfl (ltn rfl)) rfl ?_
      refine VL.done ?_
      refine VN.then ?_
      refine VC.cond_f rfl ?_
      refine VC.skip ?_
      refine VN.then ?_
      refine VC.seq ?_
      refine VC.region ?_
      refine VL.va (op_move rfl (ltn rfl)) rfl ?_
      refine VL.va (op_move rfl (ltn rfl)) rfl ?_
      replace h := Option.bind_eq_some_iff.1 h
      obtain ⟨⟨t4598, t4599⟩, hA4600, h⟩ := h
      dsimp only at h
      refine VL.sC (o_call0 FO24 (stock_at.ok k l0 a1 v0 t4598 t4599 hA4600) rfl rfl (ltn rfl) (All_of (.cons (List.mem_of_getElem? (i := 0) rfl) .nil))) rfl ?_
      rintro _ _ _ ⟨rfl, rfl, rfl⟩
      refine VL.va (op_move rfl (ltn rfl)) rfl ?_
      refine VL.va (op_extract rfl rfl (ltn rfl)) rfl ?_
      refine VL.va (op_extract rfl rfl (ltn rfl)) rfl ?_
      refine VL.va (op_assign rfl (ltn rfl)) rfl ?_
      refine VL.va (op_assign rfl (ltn rfl)) rfl ?_
      refine VL.done ?_
      refine VN.then ?_
      refine VC.seq ?_
      refine VC.seq ?_
      refine VC.region ?_
      refine VL.va (op_move rfl (ltn rfl)) rfl ?_
      by_cases c4605 : t4599 = true
      · rw [if_pos c4605] at h
        obtain rfl := c4605
        refine VL.va (op_not rfl rfl (ltn rfl)) rfl ?_
        refine VL.done ?_
        refine VN.then ?_
        refine VC.cond_f rfl ?_
        refine VC.skip ?_
        refine VN.then ?_
        refine VC.seq ?_
        refine VC.region ?_
        refine VL.va (op_move rfl (ltn rfl)) rfl ?_
        replace h := Option.bind_eq_some_iff.1 h
        obtain ⟨r4606, hA4607, h⟩ := h
        refine VL.sC (o_call_b0 FO25 (slices_Clone_api_Row_api_Row.ok l0 v0 r4606 hA4607) rfl rfl (ltn rfl) (All_of (.cons (.inl (List.mem_of_getElem? (i := 0) rfl)) .nil)) (by rintro _ _ _ ⟨_, rfl, rfl, rfl⟩; rfl)) rfl ?_
        rintro v4609 _ _ ⟨_, rfl, rfl, rfl⟩
        refine VL.va (op_assign rfl (ltn rfl)) rfl ?_
        refine VL.done ?_
        refine VN.then ?_
        refine VC.seq ?_
        refine VC.region ?_
        refine VL.va (op_move rfl (ltn rfl)) rfl ?_
        refine VL.va (op_move rfl (ltn rfl)) rfl ?_
        refine VL.va (op_move rfl (ltn rfl)) rfl ?_
        by_cases c4610 : 0 ≤ t4598
        · rw [if_pos c4610] at h
          replace h := Option.bind_eq_some_iff.1 h
          obtain ⟨x4611, hx4611, h⟩ := h
          refine VL.openR (m := r4606.length) 0 lenm rfl (pos_get hx4611) ?_
          rintro g4612 n4613 rfl
          refine VL.va (op_indexAddr Try.underlying23 TI33 rfl rfl c4610 (lt_get c4610 hx4611) (add_zero_at _ _) (ltn rfl)) rfl ?_
          replace h := Option.bind_eq_some_iff.1 h
          obtain ⟨_, hA4614, h⟩ := h
          refine VL.sC (o_call0 FO31 (stock_Ship_1.ok (⟨g4612, t4598.toNat * 6, none⟩ : Addr) hA4614) rfl rfl (ltn rfl) (All_of .nil)) rfl ?_
          rintro _ _ _ ⟨rfl, rfl, rfl⟩
          refine VL.va (op_move rfl (ltn rfl)) rfl ?_
          refine VL.va (op_extract rfl rfl (ltn rfl)) rfl ?_
          refine VL.va (op_extract rfl rfl (ltn rfl)) rfl ?_
          refine VL.va (op_assign rfl (ltn rfl)) rfl ?_
          refine VL.va (op_assign rfl (ltn rfl)) rfl ?_
          refine VL.done ?_
          refine VN.then ?_
          refine VC.seq ?_
          refine VC.seq ?_
          refine VC.region ?_
          refine VL.va (op_move rfl (ltn rfl)) rfl ?_
          refine VL.va (op_nilCheck rfl (ltn rfl)) rfl ?_
          refine VL.va (op_load_own (sz := 6) (o := 3) 0 t4598.toNat 1 rfl rfl (get_map hx4611) TI3 rfl (by decide) (ltn rfl)) rfl ?_
          refine VL.va (op_move rfl (ltn rfl)) rfl ?_
          refine VL.letter (decide (x4611.f3 < a2)) fun b4618 hb4618 => ?_
          refine VL.va (op_cmp rfl rfl (congrArg some hb4618) (ltn rfl)) rfl ?_
          refine VL.done ?_
          refine VN.then ?_
          by_cases c4619 : x4611.f3 < a2
          · rw [if_pos c4619] at h
            obtain rfl : b4618 = true := hb4618.symm.trans (decide_eq_true c4619)
            refine VC.cond_t rfl ?_
            refine VC.seq ?_
            refine VC.region ?_
            refine VL.va (op_assign rfl (ltn rfl)) rfl ?_
            refine VL.va (op_assign rfl (ltn rfl)) rfl ?_
            refine VL.done ?_
            refine VN.then ?_
            refine VC.ret ?_
            refine VR.then ?_
            simp only [Option.some.injEq, Prod.mk.injEq] at h
            obtain ⟨rfl, rfl⟩ := h
            refine VR.nilRow' 33 6 ?_
            exact VR.fn (rs := [.tmp 8, .tmp 9]) [] [((.slice none 0 0), 33, 6, ([] : List S32).map enc32)] [0] rfl (.tmp rfl (.tmp rfl .nil)) ⟨(.slice none 0 0), rfl, rfl, rfl⟩ trivial rfl (by decide)
          · rw [if_neg c4619] at h
            obtain rfl : b4618 = false := hb4618.symm.trans (decide_eq_false c4619)
            refine VC.cond_f rfl ?_
            refine VC.skip ?_
            refine VN.then ?_
            refine VC.seq ?_
            refine VC.region ?_
            refine VL.va (op_move rfl (ltn rfl)) rfl ?_
            refine VL.va (op_nilCheck rfl (ltn rfl)) rfl ?_
            refine VL.va (op_load_own (sz := 6) (o := 3) 0 t4598.toNat 1 rfl rfl (get_map hx4611) TI3 rfl (by decide) (ltn rfl)) rfl ?_
            refine VL.va (op_move rfl (ltn rfl)) rfl ?_
            refine VL.va (op_ari64 rfl rfl rfl (ltn rfl)) rfl ?_
            refine VL.va (op_nilCheck rfl (ltn rfl)) rfl ?_
            refine VL.step1 (o_store_own (sz := 6) (o := 3) (es3 := List.map enc32 (r4606.set t4598.toNat (⟨x4611.f0, x4611.f1, x4611.f2, wrap64 (x4611.f3 - a2), x4611.f4, x4611.f5⟩ : S32))) 0 t4598.toNat 1 lenm (setm rfl) rfl rfl rfl (get_map hx4611) TI3 (.c rfl) rfl (len rfl)) rfl ?_
            refine VL.done ?_
            refine VN.then ?_
            refine VC.seq ?_
            refine VC.region ?_
            refine VL.va (op_move rfl (ltn rfl)) rfl ?_
            refine VL.va (op_nilCheck rfl (ltn rfl)) rfl ?_
            refine VL.va (op_load_own (sz := 6) (o := 4) 0 t4598.toNat 1 rfl rfl (get_map (set_get hx4611)) TI3 rfl (by decide) (ltn rfl)) rfl ?_
            refine VL.va (op_move rfl (ltn rfl)) rfl ?_
            refine VL.va (op_ari64 rfl rfl rfl (ltn rfl)) rfl ?_
            refine VL.va (op_nilCheck rfl (ltn rfl)) rfl ?_
            refine VL.step1 (o_store_own (sz := 6) (o := 4) (es3 := List.map enc32 ((r4606.set t4598.toNat (⟨x4611.f0, x4611.f1, x4611.f2, wrap64 (x4611.f3 - a2), x4611.f4, x4611.f5⟩ : S32)).set t4598.toNat (⟨x4611.f0, x4611.f1, x4611.f2, wrap64 (x4611.f3 - a2), wrap64 (x4611.f4 + a2), x4611.f5⟩ : S32))) 0 t4598.toNat 1 (by simp) (setm rfl) rfl rfl rfl (get_map (set_get hx4611)) TI3 (.c rfl) rfl (len rfl)) rfl ?_
            refine VL.done ?_
            refine VN.then ?_
            refine VC.seq ?_
            refine VC.region ?_
            refine VL.va (op_move rfl (ltn rfl)) rfl ?_
            refine VL.va (op_assign rfl (ltn rfl)) rfl ?_
            refine VL.va (op_assign rfl (ltn rfl)) rfl ?_
            refine VL.done ?_
            refine VN.then ?_
            refine VC.ret ?_
            simp only [Option.some.injEq, Prod.mk.injEq] at h
            obtain ⟨rfl, rfl⟩ := h
            exact VR.fn (rs := [.tmp 8, .tmp 9]) [] [((.slice (some ⟨g4612, 0, none⟩) r4606.length n4613), 33, 6, ((r4606.set t4598.toNat (⟨x4611.f0, x4611.f1, x4611.f2, wrap64 (x4611.f3 - a2), x4611.f4, x4611.f5⟩ : S32)).set t4598.toNat (⟨x4611.f0, x4611.f1, x4611.f2, wrap64 (x4611.f3 - a2), wrap64 (x4611.f4 + a2), x4611.f5⟩ : S32)).map enc32)] [0] rfl (.tmp rfl (.tmp rfl .nil)) ⟨(.slice (some ⟨g4612, 0, none⟩) r4606.length n4613), rfl, rfl, rfl⟩ trivial rfl (by decide)
        · rw [if_neg c4610] at h; cases h
      · rw [if_neg c4605] at h
        obtain rfl := Bool.eq_false_iff.2 c4605
        refine VL.va (op_not rfl rfl (ltn rfl)) rfl ?_
        refine VL.done ?_
        refine VN.then ?_
        refine VC.cond_t rfl ?_
        refine VC.seq ?_
        refine VC.region ?_
        refine VL.va (op_assign rfl (ltn rfl)) rfl ?_
        refine VL.va (op_assign rfl (ltn rfl)) rfl ?_
        refine VL.done ?_
        refine VN.then ?_
        refine VC.ret ?_
        refine VR.then ?_
        simp only [Option.some.injEq, Prod.mk.injEq] at h
        obtain ⟨rfl, rfl⟩ := h
        refine VR.nilRow' 33 6 ?_
        exact VR.fn (rs := [.tmp 8, .tmp 9]) [] [((.slice none 0 0), 33, 6, ([] : List S32).map enc32)] [0] rfl (.tmp rfl (.tmp rfl .nil)) ⟨(.slice none 0 0), rfl, rfl, rfl⟩ trivial rfl (by decide)
    · rw [if_neg c4597] at h
      obtain rfl := Bool.eq_false_iff.2 c4597
      refine VL.va (op_not rfl rfl (ltn rfl)) rfl ?_
      refine VL.va (op_pick rfl rfl (ltn rfl)) rfl ?_
      refine VL.done ?_
      refine VN.then ?_
      refine VC.cond_t rfl ?_
      refine VC.seq ?_
      refine VC.region ?_
      refine VL.va (op_assign rfl (ltn rfl)) rfl ?_
      refine VL.va (op_assign rfl (ltn rfl)) rfl ?_
      refine VL.done ?_
      refine VN.then ?_
      refine VC.ret ?_
      refine VR.then ?_
      simp only [Option.some.injEq, Prod.mk.injEq] at h
      obtain ⟨rfl, rfl⟩ := h
      refine VR.nilRow' 33 6 ?_
      exact VR.fn (rs := [.tmp 8, .tmp 9]) [] [((.slice none 0 0), 33, 6, ([] : List S32).map enc32)] [0] rfl (.tmp rfl (.tmp rfl .nil)) ⟨(.slice none 0 0), rfl, rfl, rfl⟩ trivial rfl (by decide)
  · rw [if_neg c4594] at h
    obtain rfl := Bool.eq_false_iff.2 c4594
    refine VL.va (op_not rfl rfl (ltn rfl)) rfl ?_
    refine VL.va (op_move rfl (ltn rfl)) rfl ?_
    refine VL.un rfl rfl (ltn rfl) ?_
    refine VL.un rfl rfl (ltn rfl) ?_
    refine VL.un rfl rfl (ltn rfl) ?_
    refine VL.va (op_pick rfl rfl (ltn rfl)) rfl ?_
    refine VL.done ?_
    refine VN.then ?_
    refine VC.cond_t rfl ?_
    refine VC.seq ?_
    refine VC.region ?_
    refine VL.va (op_assign rfl (ltn rfl)) rfl ?_
    refine VL.va (op_assign rfl (ltn rfl)) rfl ?_
    refine VL.done ?_
    refine VN.then ?_
    refine VC.ret ?_
    refine VR.then ?_
    simp only [Option.some.injEq, Prod.mk.injEq] at h
    obtain ⟨rfl, rfl⟩ := h
    refine VR.nilRow' 33 6 ?_
    exact VR.fn (rs := [.tmp 8, .tmp 9]) [] [((.slice none 0 0), 33, 6, ([] : List S32).map enc32)] [0] rfl (.tmp rfl (.tmp rfl .nil)) ⟨(.slice none 0 0), rfl, rfl, rfl⟩ trivial rfl (by decide)
set_option maxHeartbeats 4000000 in
set_option maxRecDepth 100000 in
theorem stock_Ship.ok (k : Nat) (l0 : List S32) (a1 : ByteArray) (a2 : Int) (v0 : Value) (r1 : List S32) (r2 : Int) (h : stock_Ship.f k l0 a1 a2 = some (r1, r2)) :
    VCalls Try.prog 16 [v0, .string a1, .int .i64 a2] [.row v0 6 (l0.map enc32)] (fun v G own => ∃ w0 : Value, v = .tuple #[w0, .int .i64 r2] ∧ G = [] ∧ own = [(w0, 33, 6, r1.map enc32)]) := by
  refine VCalls.intro Try.func16 rfl (len rfl) fun E hC => ?_
  unfold stock_Ship.f at h
  refine VC.seq ?_
  refine VC.region ?_
  refine VL.va (op_assign rfl (ltn rfl)) rfl ?_
  refine VL.va (op_assign rfl (ltn rfl)) rfl ?_
  refine VL.done ?_
  refine VN.then ?_
  refine VC.seq ?_
  refine VC.region ?_
  refine VL.va (op_move rfl (ltn rfl)) rfl ?_
  refine VL.va (op_move rfl (ltn rfl)) rfl ?_
  refine VL.va (op_move rfl (ltn rfl)) rfl ?_
  replace h := Option.bind_eq_some_iff.1 h
  obtain ⟨⟨r4628, t4629⟩, hA4630, h⟩ := h
  dsimp only at h
  refine VL.sC (o_call0 FO28 (stock_move_s54.ok k l0 a1 a2 v0 r4628 t4629 hA4630) rfl rfl (ltn rfl) (All_of (.cons (List.mem_of_getElem? (i := 0) rfl) .nil))) rfl ?_
  rintro _ _ _ ⟨v4632, rfl, rfl, rfl⟩
  refine VL.va (op_extract rfl rfl (ltn rfl)) rfl ?_
  refine VL.va (op_extract rfl rfl (ltn rfl)) rfl ?_
  refine VL.va (op_assign rfl (ltn rfl)) rfl ?_
  refine VL.va (op_assign rfl (ltn rfl)) rfl ?_
  refine VL.done ?_
  refine VN.then ?_
  refine VC.ret ?_
  simp only [Option.some.injEq, Prod.mk.injEq] at h
  obtain ⟨rfl, rfl⟩ := h
  exact VR.fn (rs := [.tmp 6, .tmp 7]) [] [(v4632, 33, 6, r4628.map enc32)] [0] rfl (.tmp rfl (.tmp rfl .nil)) ⟨v4632, rfl, rfl, rfl⟩ trivial rfl (by decide)
set_option maxHeartbeats 4000000 in
set_option maxRecDepth 100000 in
theorem stock_Lose_1.ok  (p0 : Addr)  (h : stock_Lose_1.f = some ()) :
    VCalls Try.prog 37 [.pointer (some p0)] [] (fun v G own => v = .tuple #[.pointer (some (p0.add 2)), .pointer (some (p0.add 5))] ∧ G = [] ∧ own = []) := by
  refine VCalls.intro Try.func37 rfl (len rfl) fun E hC => ?_
  unfold stock_Lose_1.f at h
  refine VC.seq ?_
  refine VC.region ?_
  refine VL.va (op_assign rfl (ltn rfl)) rfl ?_
  refine VL.va (op_assign rfl (ltn rfl)) rfl ?_
  refine VL.done ?_
  refine VN.then ?_
  refine VC.join0 (⟨10, [(2, .pointer (some (p0.add 2))), (3, .pointer (some (p0.add 5)))], [], [], []⟩) (True) ?_ ?_
  · refine VC.draw ⟨0, [], [], [], []⟩ (by kernel_rfl) rfl (by kernel_rfl) (n := 8) (listed := LB 8 0) ?_
    refine VA.va (i := 0) (listed' := LB 8 1) rfl (op_move rfl (ltn rfl)) rfl (by kernel_rfl) (by kernel_rfl) (by kernel_rfl) (by kernel_rfl) ⟨trivial, trivial, trivial⟩ (fun _ _ _ h => h) ?_
    refine VA.va (i := 1) (listed' := LB 8 3) rfl (op_nilCheck rfl (ltn rfl)) rfl (by kernel_rfl) (by kernel_rfl) (by kernel_rfl) (by kernel_rfl) ⟨trivial, trivial, trivial⟩ (fun _ _ _ h => h) ?_
    refine VA.va (i := 2) (listed' := LB 8 7) rfl (op_fieldAddr FI33_2 rfl rfl (ltn rfl)) rfl (by kernel_rfl) (by kernel_rfl) (by kernel_rfl) (by kernel_rfl) ⟨trivial, trivial, trivial⟩ (fun _ _ _ h => h) ?_
    refine VA.va (i := 3) (listed' := LB 8 15) rfl (op_move rfl (ltn rfl)) rfl (by kernel_rfl) (by kernel_rfl) (by kernel_rfl) (by kernel_rfl) ⟨trivial, trivial, trivial⟩ (fun _ _ _ h => h) ?_
    refine VA.va (i := 4) (listed' := LB 8 31) rfl (op_nilCheck rfl (ltn rfl)) rfl (by kernel_rfl) (by kernel_rfl) (by kernel_rfl) (by kernel_rfl) ⟨trivial, trivial, trivial⟩ (fun _ _ _ h => h) ?_
    refine VA.va (i := 5) (listed' := LB 8 63) rfl (op_fieldAddr FI33_5 rfl rfl (ltn rfl)) rfl (by kernel_rfl) (by kernel_rfl) (by kernel_rfl) (by kernel_rfl) ⟨trivial, trivial, trivial⟩ (fun _ _ _ h => h) ?_
    refine VA.va (i := 6) (listed' := LB 8 127) rfl (op_assign rfl (ltn rfl)) rfl (by kernel_rfl) (by kernel_rfl) (by kernel_rfl) (by kernel_rfl) ⟨trivial, trivial, trivial⟩ (fun _ _ _ h => h) ?_
    refine VA.va (i := 7) (listed' := LB 8 255) rfl (op_assign rfl (ltn rfl)) rfl (by kernel_rfl) (by kernel_rfl) (by kernel_rfl) (by kernel_rfl) ⟨trivial, trivial, trivial⟩ (fun _ _ _ h => h) ?_
    refine VA.done (by kernel_rfl) ?_
    exact VN.meet0  [] [] trivial ⟨rfl, ⟨rfl, rfl, trivial⟩, trivial, rfl, by decide, rfl, by decide⟩
  intro _
  refine VC.ret ?_
  exact VR.fn (rs := [.tmp 2, .tmp 3]) [] [] [] rfl (.tmp rfl (.tmp rfl .nil)) ⟨rfl, rfl, rfl⟩ trivial rfl (by decide)

end Go.Proofs.Ytibpoajlnloloaa.PStockMoves
