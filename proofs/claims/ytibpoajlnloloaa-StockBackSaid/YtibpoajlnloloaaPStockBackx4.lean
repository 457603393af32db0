/- Written by a program of this repo: what the program's functions do, each as a Lean function, shown of the loaded code; or a statement's row over that; no condition of its own. -/
import Derived.Test.YtibpoajlnloloaaPStockBackx3
namespace Go.Proofs.Ytibpoajlnloloaa.PStockBack
open Go Go.RowKit Go.Proofs.YtibpoajlnloloaaV
set_option linter.unusedVariables false
set_option linter.unusedSimpArgs false

set_option maxHeartbeats 4000000 in
set_option maxRecDepth 100000 in
theorem stock_Hold_1.ok  (p0 : Addr)  (h : stock_Hold_1.f = some ()) :
    VCalls Try.prog 29 [.pointer (some p0)] [] (fun v G own => v = .tuple #[.pointer (some (p0.add 2)), .pointer (some (p0.add 3))] ∧ G = [] ∧ own = []) := by
  refine VCalls.intro Try.func29 rfl (len rfl) fun E hC => ?_
  unfold stock_Hold_1.f at h
  refine VC.seq ?_
  refine VC.region ?_
  refine VL.va (op_assign rfl (ltn rfl)) rfl ?_
  refine VL.va (op_assign rfl (ltn rfl)) rfl ?_
  refine VL.done ?_
  refine VN.then ?_
  refine VC.join0 (⟨10, [(2, .pointer (some (p0.add 2))), (3, .pointer (some (p0.add 3)))], [], [], []⟩) (True) ?_ ?_
  · refine VC.draw ⟨0, [], [], [], []⟩ (by kernel_rfl) rfl (by kernel_rfl) (n := 8) (listed := LB 8 0) ?_
    refine VA.va (i := 0) (listed' := LB 8 1) rfl (op_move rfl (ltn rfl)) rfl (by kernel_rfl) (by kernel_rfl) (by kernel_rfl) (by kernel_rfl) ⟨trivial, trivial, trivial⟩ (fun _ _ _ h => h) ?_
    refine VA.va (i := 1) (listed' := LB 8 3) rfl (op_nilCheck rfl (ltn rfl)) rfl (by kernel_rfl) (by kernel_rfl) (by kernel_rfl) (by kernel_rfl) ⟨trivial, trivial, trivial⟩ (fun _ _ _ h => h) ?_
    refine VA.va (i := 2) (listed' := LB 8 7) rfl (op_fieldAddr FI33_2 rfl rfl (ltn rfl)) rfl (by kernel_rfl) (by kernel_rfl) (by kernel_rfl) (by kernel_rfl) ⟨trivial, trivial, trivial⟩ (fun _ _ _ h => h) ?_
    refine VA.va (i := 3) (listed' := LB 8 15) rfl (op_move rfl (ltn rfl)) rfl (by kernel_rfl) (by kernel_rfl) (by kernel_rfl) (by kernel_rfl) ⟨trivial, trivial, trivial⟩ (fun _ _ _ h => h) ?_
    refine VA.va (i := 4) (listed' := LB 8 31) rfl (op_nilCheck rfl (ltn rfl)) rfl (by kernel_rfl) (by kernel_rfl) (by kernel_rfl) (by kernel_rfl) ⟨trivial, trivial, trivial⟩ (fun _ _ _ h => h) ?_
    refine VA.va (i := 5) (listed' := LB 8 63) rfl (op_fieldAddr FI33_3 rfl rfl (ltn rfl)) rfl (by kernel_rfl) (by kernel_rfl) (by kernel_rfl) (by kernel_rfl) ⟨trivial, trivial, trivial⟩ (fun _ _ _ h => h) ?_
    refine VA.va (i := 6) (listed' := LB 8 127) rfl (op_assign rfl (ltn rfl)) rfl (by kernel_rfl) (by kernel_rfl) (by kernel_rfl) (by kernel_rfl) ⟨trivial, trivial, trivial⟩ (fun _ _ _ h => h) ?_
    refine VA.va (i := 7) (listed' := LB 8 255) rfl (op_assign rfl (ltn rfl)) rfl (by kernel_rfl) (by kernel_rfl) (by kernel_rfl) (by kernel_rfl) ⟨trivial, trivial, trivial⟩ (fun _ _ _ h => h) ?_
    refine VA.done (by kernel_rfl) ?_
    exact VN.meet0  [] [] trivial ⟨rfl, ⟨rfl, rfl, trivial⟩, trivial, rfl, by decide, rfl, by decide⟩
  intro _
  refine VC.ret ?_
  exact VR.fn (rs := [.tmp 2, .tmp 3]) [] [] [] rfl (.tmp rfl (.tmp rfl .nil)) ⟨rfl, rfl, rfl⟩ trivial rfl (by decide)
set_option maxHeartbeats 4000000 in
set_option maxRecDepth 100000 in
theorem stock_move.ok (k : Nat) (l0 : List S32) (a1 : ByteArray) (a2 : Int) (v0 : Value) (r1 : List S32) (r2 : Int) (h : stock_move.f k l0 a1 a2 = some (r1, r2)) :
    VCalls Try.prog 28 [v0, .string a1, .int .i64 a2, (.func (.func 29) #[] #[])] [.row v0 6 (l0.map enc32)] (fun v G own => ∃ w0 : Value, v = .tuple #[w0, .int .i64 r2] ∧ G = [] ∧ own = [(w0, 33, 6, r1.map enc32)]) := by
  refine VCalls.intro Try.func28 rfl (len rfl) fun E hC => ?_
  unfold stock_move.f at h
  refine VC.seq ?_
  refine VC.region ?_
  refine VL.va (op_assign rfl (ltn rfl)) rfl ?_
  refine VL.va (op_assign rfl (ltn rfl)) rfl ?_
  refine VL.done ?_
  refine VN.then ?_
  refine VC.seq ?_
  refine VC.seq ?_
  refine VC.region ?_
  refine VL.va (op_move rfl (ltn rfl)) rfl ?_
  replace h := Option.bind_eq_some_iff.1 h
  obtain ⟨t1724, hA1725, h⟩ := h
  refine VL.sC (o_call0 FO9 (stock_Right.ok k l0 v0 t1724 hA1725) rfl rfl (ltn rfl) (All_of (.cons (List.mem_of_getElem? (i := 0) rfl) .nil))) rfl ?_
  rintro _ _ _ ⟨rfl, rfl, rfl⟩
  by_cases c1726 : t1724 = true
  · rw [if_pos c1726] at h
    obtain rfl := c1726
    refine VL.va (op_not rfl rfl (ltn rfl)) rfl ?_
    refine VL.va (op_move rfl (ltn rfl)) rfl ?_
    refine VL.va (op_move rfl (ltn rfl)) rfl ?_
    replace h := Option.bind_eq_some_iff.1 h
    obtain ⟨t1727, hA1728, h⟩ := h
    refine VL.sC (o_call0 FO22 (stock_units.ok a2 t1727 hA1728) rfl rfl (ltn rfl) (All_of .nil)) rfl ?_
    rintro _ _ _ ⟨rfl, rfl, rfl⟩
    by_cases c1729 : t1727 = true
    · rw [if_pos c1729] at h
      obtain rfl := c1729
      refine VL.va (op_not rfl rfl (ltn rfl)) rfl ?_
      refine VL.va (op_pick rfl rfl (ltn rfl)) rfl ?_
      refine VL.done ?_
      refine VN.then ?_
      refine VC.cond_f rfl ?_
      refine VC.skip ?_
      refine VN.then ?_
      refine VC.seq ?_
      refine VC.region ?_
      refine VL.va (op_move rfl (ltn rfl)) rfl ?_
      refine VL.va (op_move rfl (ltn rfl)) rfl ?_
      replace h := Option.bind_eq_some_iff.1 h
      obtain ⟨⟨t1850, t1851⟩, hA1852, h⟩ := h
      dsimp only at h
      refine VL.sC (o_call0 FO24 (stock_at.ok k l0 a1 v0 t1850 t1851 hA1852) rfl rfl (ltn rfl) (All_of (.cons (List.mem_of_getElem? (i := 0) rfl) .nil))) rfl ?_
      rintro _ _ _ ⟨rfl, rfl, rfl⟩
      refine VL.va (op_move rfl (ltn rfl)) rfl ?_
      refine VL.va (op_extract rfl rfl (ltn rfl)) rfl ?_
      refine VL.va (op_extract rfl rfl (ltn rfl)) rfl ?_
      refine VL.va (op_assign rfl (ltn rfl)) rfl ?_
      refine VL.va (op_assign rfl (ltn rfl)) rfl ?_
      refine VL.done ?_
      refine VN.then ?_
      refine VC.seq ?_
      refine VC.seq ?_
      refine VC.region ?_
      refine VL.va (op_move rfl (ltn rfl)) rfl ?_
      by_cases c1857 : t1851 = true
      · rw [if_pos c1857] at h
        obtain rfl := c1857
        refine VL.va (op_not rfl rfl (ltn rfl)) rfl ?_
        refine VL.done ?_
        refine VN.then ?_
        refine VC.cond_f rfl ?_
        refine VC.skip ?_
        refine VN.then ?_
        refine VC.seq ?_
        refine VC.region ?_
        refine VL.va (op_move rfl (ltn rfl)) rfl ?_
        replace h := Option.bind_eq_some_iff.1 h
        obtain ⟨r1858, hA1859, h⟩ := h
        refine VL.sC (o_call_b0 FO25 (slices_Clone_api_Row_api_Row.ok l0 v0 r1858 hA1859) rfl rfl (ltn rfl) (All_of (.cons (.inl (List.mem_of_getElem? (i := 0) rfl)) .nil)) (by rintro _ _ _ ⟨_, rfl, rfl, rfl⟩; rfl)) rfl ?_
        rintro v1861 _ _ ⟨_, rfl, rfl, rfl⟩
        refine VL.va (op_assign rfl (ltn rfl)) rfl ?_
        refine VL.done ?_
        refine VN.then ?_
        refine VC.seq ?_
        refine VC.region ?_
        refine VL.va (op_move rfl (ltn rfl)) rfl ?_
        refine VL.va (op_move rfl (ltn rfl)) rfl ?_
        refine VL.va (op_move rfl (ltn rfl)) rfl ?_
        by_cases c1862 : 0 ≤ t1850
        · rw [if_pos c1862] at h
          replace h := Option.bind_eq_some_iff.1 h
          obtain ⟨x1863, hx1863, h⟩ := h
          refine VL.openR (m := r1858.length) 0 lenm rfl (pos_get hx1863) ?_
          rintro g1864 n1865 rfl
          refine VL.va (op_indexAddr Try.underlying23 TI33 rfl rfl c1862 (lt_get c1862 hx1863) (add_zero_at _ _) (ltn rfl)) rfl ?_
          replace h := Option.bind_eq_some_iff.1 h
          obtain ⟨_, hA1866, h⟩ := h
          refine VL.sC (o_call0 FO29 (stock_Hold_1.ok (⟨g1864, t1850.toNat * 6, none⟩ : Addr) hA1866) rfl rfl (ltn rfl) (All_of .nil)) rfl ?_
          rintro _ _ _ ⟨rfl, rfl, rfl⟩
          refine VL.va (op_move rfl (ltn rfl)) rfl ?_
          refine VL.va (op_extract rfl rfl (ltn rfl)) rfl ?_
          refine VL.va (op_extract rfl rfl (ltn rfl)) rfl ?_
          refine VL.va (op_assign rfl (ltn rfl)) rfl ?_
          refine VL.va (op_assign rfl (ltn rfl)) rfl ?_
          refine VL.done ?_
          refine VN.then ?_
          refine VC.seq ?_
          refine VC.seq ?_
          refine VC.region ?_
          refine VL.va (op_move rfl (ltn rfl)) rfl ?_
          refine VL.va (op_nilCheck rfl (ltn rfl)) rfl ?_
          refine VL.va (op_load_own (sz := 6) (o := 2) 0 t1850.toNat 1 rfl rfl (get_map hx1863) TI3 rfl (by decide) (ltn rfl)) rfl ?_
          refine VL.va (op_move rfl (ltn rfl)) rfl ?_
          refine VL.letter (decide (x1863.f2 < a2)) fun b1870 hb1870 => ?_
          refine VL.va (op_cmp rfl rfl (congrArg some hb1870) (ltn rfl)) rfl ?_
          refine VL.done ?_
          refine VN.then ?_
          by_cases c1871 : x1863.f2 < a2
          · rw [if_pos c1871] at h
            obtain rfl : b1870 = true := hb1870.symm.trans (decide_eq_true c1871)
            refine VC.cond_t rfl ?_
            refine VC.seq ?_
            refine VC.region ?_
            refine VL.va (op_assign rfl (ltn rfl)) rfl ?_
            refine VL.va (op_assign rfl (ltn rfl)) rfl ?_
            refine VL.done ?_
            refine VN.then ?_
            refine VC.ret ?_
            refine VR.then ?_
            simp only [Option.some.injEq, Prod.mk.injEq] at h
            obtain ⟨rfl, rfl⟩ := h
            refine VR.nilRow' 33 6 ?_
            exact VR.fn (rs := [.tmp 8, .tmp 9]) [] [((.slice none 0 0), 33, 6, ([] : List S32).map enc32)] [0] rfl (.tmp rfl (.tmp rfl .nil)) ⟨(.slice none 0 0), rfl, rfl, rfl⟩ trivial rfl (by decide)
          · rw [if_neg c1871] at h
            obtain rfl : b1870 = false := hb1870.symm.trans (decide_eq_false c1871)
            refine VC.cond_f rfl ?_
            refine VC.skip ?_
            refine VN.then ?_
            refine VC.seq ?_
            refine VC.region ?_
            refine VL.va (op_move rfl (ltn rfl)) rfl ?_
            refine VL.va (op_nilCheck rfl (ltn rfl)) rfl ?_
            refine VL.va (op_load_own (sz := 6) (o := 2) 0 t1850.toNat 1 rfl rfl (get_map hx1863) TI3 rfl (by decide) (ltn rfl)) rfl ?_
            refine VL.va (op_move rfl (ltn rfl)) rfl ?_
            refine VL.va (op_ari64 rfl rfl rfl (ltn rfl)) rfl ?_
            refine VL.va (op_nilCheck rfl (ltn rfl)) rfl ?_
            refine VL.step1 (o_store_own (sz := 6) (o := 2) (es3 := List.map enc32 (r1858.set t1850.toNat (⟨x1863.f0, x1863.f1, wrap64 (x1863.f2 - a2), x1863.f3, x1863.f4, x1863.f5⟩ : S32))) 0 t1850.toNat 1 lenm (setm rfl) rfl rfl rfl (get_map hx1863) TI3 (.c rfl) rfl (len rfl)) rfl ?_
            refine VL.done ?_
            refine VN.then ?_
            refine VC.seq ?_
            refine VC.region ?_
            refine VL.va (op_move rfl (ltn rfl)) rfl ?_
            refine VL.va (op_nilCheck rfl (ltn rfl)) rfl ?_
            refine VL.va (op_load_own (sz := 6) (o := 3) 0 t1850.toNat 1 rfl rfl (get_map (set_get hx1863)) TI3 rfl (by decide) (ltn rfl)) rfl ?_
            refine VL.va (op_move rfl (ltn rfl)) rfl ?_
            refine VL.va (op_ari64 rfl rfl rfl (ltn rfl)) rfl ?_
            refine VL.va (op_nilCheck rfl (ltn rfl)) rfl ?_
            refine VL.step1 (o_store_own (sz := 6) (o := 3) (es3 := List.map enc32 ((r1858.set t1850.toNat (⟨x1863.f0, x1863.f1, wrap64 (x1863.f2 - a2), x1863.f3, x1863.f4, x1863.f5⟩ : S32)).set t1850.toNat (⟨x1863.f0, x1863.f1, wrap64 (x1863.f2 - a2), wrap64 (x1863.f3 + a2), x1863.f4, x1863.f5⟩ : S32))) 0 t1850.toNat 1 (by simp) (setm rfl) rfl rfl rfl (get_map (set_get hx1863)) TI3 (.c rfl) rfl (len rfl)) rfl ?_
            refine VL.done ?_
            refine VN.then ?_
            refine VC.seq ?_
            refine VC.region ?_
            refine VL.va (op_move rfl (ltn rfl)) rfl ?_
            refine VL.va (op_assign rfl (ltn rfl)) rfl ?_
            refine VL.va (op_assign rfl (ltn rfl)) rfl ?_
            refine VL.done ?_
            refine VN.then ?_
            refine VC.ret ?_
            simp only [Option.some.injEq, Prod.mk.injEq] at h
            obtain ⟨rfl, rfl⟩ := h
            exact VR.fn (rs := [.tmp 8, .tmp 9]) [] [((.slice (some ⟨g1864, 0, none⟩) r1858.length n1865), 33, 6, ((r1858.set t1850.toNat (⟨x1863.f0, x1863.f1, wrap64 (x1863.f2 - a2), x1863.f3, x1863.f4, x1863.f5⟩ : S32)).set t1850.toNat (⟨x1863.f0, x1863.f1, wrap64 (x1863.f2 - a2), wrap64 (x1863.f3 + a2), x1863.f4, x1863.f5⟩ : S32)).map enc32)] [0] rfl (.tmp rfl (.tmp rfl .nil)) ⟨(.slice (some ⟨g1864, 0, none⟩) r1858.length n1865), rfl, rfl, rfl⟩ trivial rfl (by decide)
        · rw [if_neg c1862] at h; cases h
      · rw [if_neg c1857] at h
        obtain rfl := Bool.eq_false_iff.2 c1857
        refine VL.va (op_not rfl rfl (ltn rfl)) rfl ?_
        refine VL.done ?_
        refine VN.then ?_
        refine VC.cond_t rfl ?_
        refine VC.seq ?_
        refine VC.region ?_
        refine VL.va (op_assign rfl (ltn rfl)) rfl ?_
        refine VL.va (op_assign rfl (ltn rfl)) rfl ?_
        refine VL.done ?_
        refine VN.then ?_
        refine VC.ret ?_
        refine VR.then ?_
        simp only [Option.some.injEq, Prod.mk.injEq] at h
        obtain ⟨rfl, rfl⟩ := h
        refine VR.nilRow' 33 6 ?_
        exact VR.fn (rs := [.tmp 8, .tmp 9]) [] [((.slice none 0 0), 33, 6, ([] : List S32).map enc32)] [0] rfl (.tmp rfl (.tmp rfl .nil)) ⟨(.slice none 0 0), rfl, rfl, rfl⟩ trivial rfl (by decide)
    · rw [if_neg c1729] at h
      obtain rfl := Bool.eq_false_iff.2 c1729
      refine VL.va (op_not rfl rfl (ltn rfl)) rfl ?_
      refine VL.va (op_pick rfl rfl (ltn rfl)) rfl ?_
      refine VL.done ?_
      refine VN.then ?_
      refine VC.cond_t rfl ?_
      refine VC.seq ?_
      refine VC.region ?_
      refine VL.va (op_assign rfl (ltn rfl)) rfl ?_
      refine VL.va (op_assign rfl (ltn rfl)) rfl ?_
      refine VL.done ?_
      refine VN.then ?_
      refine VC.ret ?_
      refine VR.then ?_
      simp only [Option.some.injEq, Prod.mk.injEq] at h
      obtain ⟨rfl, rfl⟩ := h
      refine VR.nilRow' 33 6 ?_
      exact VR.fn (rs := [.tmp 8, .tmp 9]) [] [((.slice none 0 0), 33, 6, ([] : List S32).map enc32)] [0] rfl (.tmp rfl (.tmp rfl .nil)) ⟨(.slice none 0 0), rfl, rfl, rfl⟩ trivial rfl (by decide)
  · rw [if_neg c1726] at h
    obtain rfl := Bool.eq_false_iff.2 c1726
    refine VL.va (op_not rfl rfl (ltn rfl)) rfl ?_
    refine VL.va (op_move rfl (ltn rfl)) rfl ?_
    refine VL.un rfl rfl (ltn rfl) ?_
    refine VL.un rfl rfl (ltn rfl) ?_
    refine VL.un rfl rfl (ltn rfl) ?_
    refine VL.va (op_pick rfl rfl (ltn rfl)) rfl ?_
    refine VL.done ?_
    refine VN.then ?_
    refine VC.cond_t rfl ?_
    refine VC.seq ?_
    refine VC.region ?_
    refine VL.va (op_assign rfl (ltn rfl)) rfl ?_
    refine VL.va (op_assign rfl (ltn rfl)) rfl ?_
    refine VL.done ?_
    refine VN.then ?_
    refine VC.ret ?_
    refine VR.then ?_
    simp only [Option.some.injEq, Prod.mk.injEq] at h
    obtain ⟨rfl, rfl⟩ := h
    refine VR.nilRow' 33 6 ?_
    exact VR.fn (rs := [.tmp 8, .tmp 9]) [] [((.slice none 0 0), 33, 6, ([] : List S32).map enc32)] [0] rfl (.tmp rfl (.tmp rfl .nil)) ⟨(.slice none 0 0), rfl, rfl, rfl⟩ trivial rfl (by decide)
set_option maxHeartbeats 4000000 in
set_option maxRecDepth 100000 in
theorem stock_Hold.ok (k : Nat) (l0 : List S32) (a1 : ByteArray) (a2 : Int) (v0 : Value) (r1 : List S32) (r2 : Int) (h : stock_Hold.f k l0 a1 a2 = some (r1, r2)) :
    VCalls Try.prog 13 [v0, .string a1, .int .i64 a2] [.row v0 6 (l0.map enc32)] (fun v G own => ∃ w0 : Value, v = .tuple #[w0, .int .i64 r2] ∧ G = [] ∧ own = [(w0, 33, 6, r1.map enc32)]) := by
  refine VCalls.intro Try.func13 rfl (len rfl) fun E hC => ?_
  unfold stock_Hold.f at h
  refine VC.seq ?_
  refine VC.region ?_
  refine VL.va (op_assign rfl (ltn rfl)) rfl ?_
  refine VL.va (op_assign rfl (ltn rfl)) rfl ?_
  refine VL.done ?_
  refine VN.then ?_
  refine VC.seq ?_
  refine VC.region ?_
  refine VL.va (op_move rfl (ltn rfl)) rfl ?_
  refine VL.va (op_move rfl (ltn rfl)) rfl ?_
  refine VL.va (op_move rfl (ltn rfl)) rfl ?_
  replace h := Option.bind_eq_some_iff.1 h
  obtain ⟨⟨r1880, t1881⟩, hA1882, h⟩ := h
  dsimp only at h
  refine VL.sC (o_call0 FO28 (stock_move.ok k l0 a1 a2 v0 r1880 t1881 hA1882) rfl rfl (ltn rfl) (All_of (.cons (List.mem_of_getElem? (i := 0) rfl) .nil))) rfl ?_
  rintro _ _ _ ⟨v1884, rfl, rfl, rfl⟩
  refine VL.va (op_extract rfl rfl (ltn rfl)) rfl ?_
  refine VL.va (op_extract rfl rfl (ltn rfl)) rfl ?_
  refine VL.va (op_assign rfl (ltn rfl)) rfl ?_
  refine VL.va (op_assign rfl (ltn rfl)) rfl ?_
  refine VL.done ?_
  refine VN.then ?_
  refine VC.ret ?_
  simp only [Option.some.injEq, Prod.mk.injEq] at h
  obtain ⟨rfl, rfl⟩ := h
  exact VR.fn (rs := [.tmp 6, .tmp 7]) [] [(v1884, 33, 6, r1880.map enc32)] [0] rfl (.tmp rfl (.tmp rfl .nil)) ⟨v1884, rfl, rfl, rfl⟩ trivial rfl (by decide)
set_option maxHeartbeats 4000000 in
set_option maxRecDepth 100000 in
theorem stock_Get.ok (k : Nat) (l0 : List S32) (a1 : ByteArray) (v0 : Value) (r1 : ByteArray) (r2 : Int) (r3 : Int) (r4 : Int) (r5 : Int) (r6 : Int) (r7 : Int) (h : stock_Get.f k l0 a1 = some (r1, r2, r3, r4, r5, r6, r7)) :
    VCalls Try.prog 14 [v0, .string a1] [.row v0 6 (l0.map enc32)] (fun v G own => v = .tuple #[.agg #[.string r1, .int .i64 r2, .int .i64 r3, .int .i64 r4, .int .i64 r5, .int .i64 r6], .int .i64 r7] ∧ G = [] ∧ own = []) := by
  refine VCalls.intro Try.func14 rfl (len rfl) fun E hC => ?_
  unfold stock_Get.f at h
  refine VC.seq ?_
  refine VC.region ?_
  refine VL.sG (o_alloc (us := [.string (⟨#[]⟩ : ByteArray), .int .i64 0, .int .i64 0, .int .i64 0, .int .i64 0, .int .i64 0]) Z33 rfl (ltn rfl)) rfl ?_
  intro g1891
  refine VL.va (op_assign rfl (ltn rfl)) rfl ?_
  refine VL.done ?_
  refine VN.then ?_
  refine VC.seq ?_
  refine VC.seq ?_
  refine VC.region ?_
  refine VL.va (op_move rfl (ltn rfl)) rfl ?_
  replace h := Option.bind_eq_some_iff.1 h
  obtain ⟨t1901, hA1902, h⟩ := h
  refine VL.sC (o_call0 FO9 (stock_Right.ok k l0 v0 t1901 hA1902) rfl rfl (ltn rfl) (All_of (.cons (List.mem_of_getElem? (i := 0) rfl) .nil))) rfl ?_
  rintro _ _ _ ⟨rfl, rfl, rfl⟩
  by_cases c1903 : t1901 = true
  · rw [if_pos c1903] at h
    obtain rfl := c1903
    refine VL.va (op_not rfl rfl (ltn rfl)) rfl ?_
    refine VL.done ?_
    refine VN.then ?_
    refine VC.cond_f rfl ?_
    refine VC.skip ?_
    refine VN.then ?_
    refine VC.seq ?_
    refine VC.region ?_
    refine VL.va (op_move rfl (ltn rfl)) rfl ?_
    refine VL.va (op_move rfl (ltn rfl)) rfl ?_
    replace h := Option.bind_eq_some_iff.1 h
    obtain ⟨⟨t1904, t1905⟩, hA1906, h⟩ := h
    dsimp only at h
    refine VL.sC (o_call0 FO24 (stock_at.ok k l0 a1 v0 t1904 t1905 hA1906) rfl rfl (ltn rfl) (All_of (.cons (List.mem_of_getElem? (i := 0) rfl) .nil))) rfl ?_
    rintro _ _ _ ⟨rfl, rfl, rfl⟩
    refine VL.va (op_move rfl (ltn rfl)) rfl ?_
    refine VL.va (op_extract rfl rfl (ltn rfl)) rfl ?_
    refine VL.va (op_extract rfl rfl (ltn rfl)) rfl ?_
    refine VL.va (op_assign rfl (ltn rfl)) rfl ?_
    refine VL.va (op_assign rfl (ltn rfl)) rfl ?_
    refine VL.done ?_
    refine VN.then ?_
    refine VC.seq ?_
    refine VC.seq ?_
    refine VC.region ?_
    refine VL.va (op_move rfl (ltn rfl)) rfl ?_
    by_cases c1910 : t1905 = true
    · rw [if_pos c1910] at h
      obtain rfl := c1910
      refine VL.va (op_not rfl rfl (ltn rfl)) rfl ?_
      refine VL.done ?_
      refine VN.then ?_
      refine VC.cond_f rfl ?_
      refine VC.skip ?_
      refine VN.then ?_
      refine VC.seq ?_
      refine VC.region ?_
      refine VL.va (op_move rfl (ltn rfl)) rfl ?_
      refine VL.va (op_move rfl (ltn rfl)) rfl ?_
      by_cases c1911 : 0 ≤ t1904
      · rw [if_pos c1911] at h
        replace h := Option.bind_eq_some_iff.1 h
        obtain ⟨x1912, hx1912, h⟩ := h
        refine VL.open (m := l0.length) 0 lenm rfl (pos_get hx1912) ?_
        rintro ad1913 n1914 rfl
        refine VL.va (op_indexAddr Try.underlying23 TI33 rfl rfl c1911 (lt_get c1911 hx1912) rfl (ltn rfl)) rfl ?_
        refine VL.va (op_load_row (sz := 6) (o := 0) 0 t1904.toNat 6 rfl rfl (get_map hx1912) TI33 rfl (fun h => absurd h (by decide)) (ltn rfl)) rfl ?_
        refine VL.step1 (o_store 0 6 rfl rfl rfl TI33 (.agg (.c rfl (.c rfl (.c rfl (.c rfl (.c rfl (.c rfl .nil))))))) rfl (len rfl)) rfl ?_
        refine VL.va (op_assign rfl (ltn rfl)) rfl ?_
        refine VL.done ?_
        refine VN.then ?_
        refine VC.ret ?_
        simp only [Option.some.injEq, Prod.mk.injEq] at h
        obtain ⟨rfl, rfl, rfl, rfl, rfl, rfl, rfl⟩ := h
        exact VR.fn (rs := [.cell 4 33, .tmp 5]) [] [] [] rfl (.cell 0 rfl rfl TI33 (fun h => absurd h (by decide)) (.tmp rfl .nil)) ⟨rfl, rfl, rfl⟩ trivial rfl (by decide)
      · rw [if_neg c1911] at h; cases h
    · rw [if_neg c1910] at h
      obtain rfl := Bool.eq_false_iff.2 c1910
      refine VL.va (op_not rfl rfl (ltn rfl)) rfl ?_
      refine VL.done ?_
      refine VN.then ?_
      refine VC.cond_t rfl ?_
      refine VC.seq ?_
      refine VC.region ?_
      refine VL.va (op_build (vals := []) (vcs := []) (cells := [.string (⟨#[]⟩ : ByteArray), .int .i64 0, .int .i64 0, .int .i64 0, .int .i64 0, .int .i64 0]) SI33 rfl .nil (by kernel_rfl) (ltn rfl)) rfl ?_
      refine VL.step1 (o_store 0 6 rfl rfl rfl TI33 (.agg (.c rfl (.c rfl (.c rfl (.c rfl (.c rfl (.c rfl .nil))))))) rfl (len rfl)) rfl ?_
      refine VL.va (op_assign rfl (ltn rfl)) rfl ?_
      refine VL.done ?_
      refine VN.then ?_
      refine VC.ret ?_
      refine VR.then ?_
      simp only [Option.some.injEq, Prod.mk.injEq] at h
      obtain ⟨rfl, rfl, rfl, rfl, rfl, rfl, rfl⟩ := h
      exact VR.fn (rs := [.cell 4 33, .tmp 5]) [] [] [] rfl (.cell 0 rfl rfl TI33 (fun h => absurd h (by decide)) (.tmp rfl .nil)) ⟨rfl, rfl, rfl⟩ trivial rfl (by decide)
  · rw [if_neg c1903] at h
    obtain rfl := Bool.eq_false_iff.2 c1903
    refine VL.va (op_not rfl rfl (ltn rfl)) rfl ?_
    refine VL.done ?_
    refine VN.then ?_
    refine VC.cond_t rfl ?_
    refine VC.seq ?_
    refine VC.region ?_
    refine VL.va (op_build (vals := []) (vcs := []) (cells := [.string (⟨#[]⟩ : ByteArray), .int .i64 0, .int .i64 0, .int .i64 0, .int .i64 0, .int .i64 0]) SI33 rfl .nil (by kernel_rfl) (ltn rfl)) rfl ?_
    refine VL.step1 (o_store 0 6 rfl rfl rfl TI33 (.agg (.c rfl (.c rfl (.c rfl (.c rfl (.c rfl (.c rfl .nil))))))) rfl (len rfl)) rfl ?_
    refine VL.va (op_assign rfl (ltn rfl)) rfl ?_
    refine VL.done ?_
    refine VN.then ?_
    refine VC.ret ?_
    refine VR.then ?_
    simp only [Option.some.injEq, Prod.mk.injEq] at h
    obtain ⟨rfl, rfl, rfl, rfl, rfl, rfl, rfl⟩ := h
    exact VR.fn (rs := [.cell 4 33, .tmp 5]) [] [] [] rfl (.cell 0 rfl rfl TI33 (fun h => absurd h (by decide)) (.tmp rfl .nil)) ⟨rfl, rfl, rfl⟩ trivial rfl (by decide)
set_option maxHeartbeats 4000000 in
set_option maxRecDepth 100000 in
theorem slices_Insert_api_Row_api_Row.ok (l0 : List S32) (a1 : Int) (l2 : List S32) (v0 v2 : Value) (r1 : List S32) (h : slices_Insert_api_Row_api_Row.f l0 a1 l2 = some r1) :
    VOwn Try.prog 26 [v0, .int .i64 a1, v2] (v0, 33, 6, l0.map enc32) [.row v2 6 (l2.map enc32), .lent v2 33 6 (l2.map enc32)] (fun q x' => x' = (q, 33, 6, r1.map enc32)) := by
  unfold slices_Insert_api_Row_api_Row.f at h
  by_cases hc : ¬ (0 ≤ a1 ∧ a1 ≤ (l0.length : Int) ∧ (l0.length + l2.length) * 56 ≤ 140737488355328)
  · rw [if_neg hc] at h; cases h
  replace hc := Decidable.not_not.1 hc
  rw [if_pos hc] at h
  obtain rfl := Option.some.inj h
  obtain ⟨h0, hle, hbig⟩ := hc
  clear h
  obtain ⟨i, rfl⟩ : ∃ i : Nat, a1 = (i : Int) := ⟨a1.toNat, by omega⟩
  have hi : i ≤ l0.length := by omega
  have hsm : l0.length + l2.length ≤ 140737488355328 := by omega
  simp only [Int.toNat_natCast]
  refine VOwn.intro Try.func26 rfl (len rfl) fun E fr => ?_
  refine VC.formR 0 rfl fun A cap hv hcap => ?_
  rw [lenm] at hv hcap
  subst hv
  refine VC.seq (VC.region ?_)
  refine VL.va (op_assign rfl (ltn rfl)) rfl ?_
  refine VL.done (VN.then ?_)
  refine VC.seq (VC.region ?_)
  refine VL.va (op_move rfl (ltn rfl)) rfl ?_
  refine VL.va (op_move rfl (ltn rfl)) rfl ?_
  refine VL.va (op_cutV (l := i) (h := l0.length) Try.underlying23 TI33 rfl ⟨⟨_, _, rfl, h0, Int.toNat_natCast i⟩, rfl, hi, Nat.le_refl _⟩ hcap (ltn rfl)) rfl ?_
  refine VL.done (VN.then ?_)
  refine VC.seq (VC.region ?_)
  refine VL.va (op_move rfl (ltn rfl)) rfl ?_
  refine VL.va (op_len (m := l2.length) 0 lenm Try.underlying23 rfl rfl (ltn rfl)) rfl ?_
  refine VL.va (op_assign rfl (ltn rfl)) rfl ?_
  refine VL.done (VN.then ?_)
  refine VC.seq ?_
  refine VC.seq (VC.region ?_)
  refine VL.va (op_move rfl (ltn rfl)) rfl ?_
  refine VL.letter ((l2.length : Int) == 0) fun b3 hb3 => ?_
  refine VL.va (op_cmp rfl rfl (congrArg some hb3) (ltn rfl)) rfl ?_
  refine VL.done (VN.then ?_)
  by_cases c3 : l2.length = 0
  · have : b3 = true := by rw [← hb3]; simpa using c3
    subst this
    clear hb3
    refine VC.cond_t rfl ?_
    refine VC.seq (VC.region ?_)
    refine VL.va (op_move rfl (ltn rfl)) rfl ?_
    refine VL.va (op_assign rfl (ltn rfl)) rfl ?_
    refine VL.done (VN.then ?_)
    refine VC.ret (VR.then ?_)
    have e2 : l2 = [] := List.eq_nil_of_length_eq_zero c3
    refine VR.own (rs := [.tmp 6]) 0 [.row v2 6 (l2.map enc32), .lent v2 33 6 (l2.map enc32)] rfl (.tmp rfl .nil) rfl ?_ rfl id
    rw [e2, List.append_nil, List.take_append_drop]
    rfl
  have : b3 = false := by rw [← hb3]; simpa using c3
  subst this
  clear hb3
  refine VC.cond_f rfl (VC.skip (VN.then ?_))
  refine VC.openLent 1 rfl (by rw [lenm]; omega) ?_
  rintro vb c2 rfl
  rw [lenm]
  refine VC.seq (VC.region ?_)
  refine VL.va (op_move rfl (ltn rfl)) rfl ?_
  refine VL.va (op_lenV Try.underlying23 rfl (ltn rfl)) rfl ?_
  refine VL.va (op_assign rfl (ltn rfl)) rfl ?_
  refine VL.done (VN.then ?_)
  refine VC.seq ?_
  refine VC.seq (VC.region ?_)
  refine VL.va (op_move rfl (ltn rfl)) rfl ?_
  refine VL.va (op_move rfl (ltn rfl)) rfl ?_
  refine VL.letter ((i : Int) == (l0.length : Int)) fun b6 hb6 => ?_
  refine VL.va (op_cmp rfl rfl (congrArg some hb6) (ltn rfl)) rfl ?_
  refine VL.done (VN.then ?_)
  by_cases c6 : i = l0.length
  · have : b6 = true := by rw [← hb6]; simp [c6]
    subst this
    clear hb6
    refine VC.cond_t rfl ?_
    refine VC.seq (VC.region ?_)
    refine VL.va (op_move rfl (ltn rfl)) rfl ?_
    refine VL.va (op_move rfl (ltn rfl)) rfl ?_
    refine VL.sG (o_append 0 appm Try.underlying23 EI33 rfl rfl rfl (.inl ⟨0, rfl⟩) (bndm hbig) (ltn rfl)) rfl ?_
    intro v7
    refine VL.va (op_assign rfl (ltn rfl)) rfl ?_
    refine VL.done (VN.then ?_)
    refine VC.ret (VR.then ?_)
    refine VR.someR 0 rfl (by rw [lenm, List.length_append]; omega) fun hs7 => ?_
    refine VR.own (rs := [.tmp 6]) 0 [.row (.slice (some ⟨vb, 0, none⟩) l2.length c2) 6 (l2.map enc32), .lent (.slice (some ⟨vb, 0, none⟩) l2.length c2) 33 6 (l2.map enc32)] rfl (.tmp rfl .nil) rfl ?_ rfl (fun _ => hs7)
    rw [c6, List.take_length, List.drop_length, List.append_nil]
    rfl
  have : b6 = false := by rw [← hb6]; simpa using fun e => c6 (by omega)
  subst this
  clear hb6
  have hin : i < l0.length := by omega
  refine VC.cond_f rfl (VC.skip (VN.then ?_))
  refine VC.openBox 0 rfl (by rw [lenm]; omega) fun g cap' cur hv hcap' hmx hlen htake hfl => ?_
  rw [lenm] at hv hcap' htake
  obtain ⟨rfl, -, rfl⟩ := Value.slice.inj hv
  clear hv hcap'
  refine VC.lentNe 0 1 rfl rfl fun hne => ?_
  have hflv : flatOk 6 (l2.map enc32) := flat_map enc32_ok l2
  have hvl : (l2.map enc32).flatten.length = l2.length * 6 := by rw [flat_len hflv, lenm]
  have hd : ((cur.drop (i * 6)).take ((l0.length - i) * 6)).length = (l0.length - i) * 6 := by rw [List.length_take, List.length_drop, hlen]; omega
  have h1c : ∀ u ∈ (cur.drop (i * 6)).take ((l0.length - i) * 6), u.oneCell' = true := by
    intro u hu
    have e : (cur.drop (i * 6)).take ((l0.length - i) * 6) = (cur.take (l0.length * 6)).drop (i * 6) := by
      rw [List.drop_take]
      congr 1
      omega
    rw [e, htake] at hu
    exact flat_one hfl u (List.mem_of_mem_drop hu)
  have hfin : ((l0.take i ++ l2 ++ l0.drop i).map enc32).flatten = (cur.take (l0.length * 6)).take (i * 6) ++ (l2.map enc32).flatten ++ (cur.take (l0.length * 6)).drop (i * 6) := by
    rw [htake, List.map_append, List.map_append, List.flatten_append, List.flatten_append, List.map_take, List.map_drop, flat_take i hfl, flat_drop i hfl]
  have hfll : (l0.take i ++ l2 ++ l0.drop i).length = l0.length + l2.length := by simp only [List.length_append, List.length_take, List.length_drop]; omega
  refine VC.seq ?_
  refine VC.seq (VC.region ?_)
  refine VL.va (op_move rfl (ltn rfl)) rfl ?_
  refine VL.va (op_move rfl (ltn rfl)) rfl ?_
  refine VL.va (op_ari64 (q := ((l0.length + l2.length : Nat) : Int)) rfl rfl (congrArg some (w64 (by omega) (by omega))) (ltn rfl)) rfl ?_
  refine VL.va (op_move rfl (ltn rfl)) rfl ?_
  refine VL.va (op_cap Try.underlying23 rfl (ltn rfl)) rfl ?_
  refine VL.letter (decide (((l0.length + l2.length : Nat) : Int) > (cap : Int))) fun b8 hb8 => ?_
  refine VL.va (op_cmp rfl rfl (congrArg some hb8) (ltn rfl)) rfl ?_
  refine VL.done (VN.then ?_)
  by_cases c8 : cap < l0.length + l2.length
  · have : b8 = true := by rw [← hb8]; simp; omega
    subst this
    clear hb8
    refine VC.cond_t rfl ?_
    refine VC.seq (VC.region ?_)
    refine VL.va (op_move rfl (ltn rfl)) rfl ?_
    refine VL.va (op_move rfl (ltn rfl)) rfl ?_
    refine VL.va (op_cutH' 0 i (v := .slice (some ⟨g, 0, none⟩) i cap) (by rw [cutV_at0 (.inr rfl)]; simp) Try.underlying23 TI33 rfl ⟨rfl, ⟨_, _, rfl, h0, Int.toNat_natCast i⟩, Nat.zero_le _, by omega⟩ (ltn rfl)) rfl ?_
    refine VL.va (op_move rfl (ltn rfl)) rfl ?_
    refine VL.va (op_move rfl (ltn rfl)) rfl ?_
    refine VL.va (op_ari64 (q := ((l0.length + l2.length : Nat) : Int)) rfl rfl (congrArg some (w64 (by omega) (by omega))) (ltn rfl)) rfl ?_
    refine VL.va (op_move rfl (ltn rfl)) rfl ?_
    refine VL.va (op_ari64 (q := ((l0.length + l2.length - i : Nat) : Int)) rfl rfl (congrArg some (w64 (by omega) (by omega))) (ltn rfl)) rfl ?_
    refine o_appendZ 0 Try.underlying23 Try.underlying3 EI33 rfl rfl rfl (olds := cur.take (i * 6)) (by rw [List.drop_zero]) (by rw [List.length_take, hlen]; omega) (by omega) (by omega) (by omega) (by rw [show i + (l0.length + l2.length - i) = l0.length + l2.length by omega]; exact hbig) (ltn rfl) rfl fun g2 cap2 tail hc2 hm2 ht2 => ?_
    rw [show i + (l0.length + l2.length - i) = l0.length + l2.length by omega] at hc2 ⊢
    refine VL.va (op_assign rfl (ltn rfl)) rfl ?_
    refine VL.done (VN.then ?_)
    refine VC.seq (VC.region ?_)
    refine VL.va (op_move rfl (ltn rfl)) rfl ?_
    refine VL.va (op_move rfl (ltn rfl)) rfl ?_
    refine VL.va (op_cutV' i (l0.length + l2.length) (cutV_at0 (by omega)) Try.underlying23 TI33 rfl ⟨⟨_, _, rfl, h0, Int.toNat_natCast i⟩, rfl, by omega, Nat.le_refl _⟩ hc2 (ltn rfl)) rfl ?_
    refine VL.va (op_move rfl (ltn rfl)) rfl ?_
    have hol : (cur.take (i * 6) ++ tail).length = cap2 * 6 := by rw [List.length_append, List.length_take, hlen, ht2]; omega
    have hol2 : (upd (cur.take (i * 6) ++ tail) (i * 6) (l2.map enc32).flatten).length = cap2 * 6 := by rw [upd_len, hol]; rw [hvl, hol]; omega
    refine VL.step1 (o_copy (m := l2.length) 0 Try.underlying23 TI33 rfl rfl rfl (by omega) hvl (by rw [hvl, hol]; omega) (src_row 0 rfl) (flat_one hflv) rfl (ltn rfl)) rfl ?_
    refine VL.done (VN.then ?_)
    refine VC.seq ?_
    refine VC.draw ⟨0, [], [], [], []⟩ (by kernel_rfl) rfl (by kernel_rfl) (n := 9) (listed := LB 9 0) ?_
    refine VA.va (i := 0) (listed' := LB 9 1) rfl (op_move rfl (ltn rfl)) rfl (by kernel_rfl) (by kernel_rfl) (by kernel_rfl) (by kernel_rfl) ⟨trivial, trivial, trivial⟩ (fun _ _ _ h => h) ?_
    refine VA.va (i := 1) (listed' := LB 9 3) rfl (op_move rfl (ltn rfl)) rfl (by kernel_rfl) (by kernel_rfl) (by kernel_rfl) (by kernel_rfl) ⟨trivial, trivial, trivial⟩ (fun _ _ _ h => h) ?_
    refine VA.va (i := 2) (listed' := LB 9 7) rfl (op_move rfl (ltn rfl)) rfl (by kernel_rfl) (by kernel_rfl) (by kernel_rfl) (by kernel_rfl) ⟨trivial, trivial, trivial⟩ (fun _ _ _ h => h) ?_
    refine VA.va (i := 3) (listed' := LB 9 15) rfl (op_ari64 (q := ((i + l2.length : Nat) : Int)) rfl rfl (congrArg some (w64 (by omega) (by omega))) (ltn rfl)) rfl (by kernel_rfl) (by kernel_rfl) (by kernel_rfl) (by kernel_rfl) ⟨trivial, trivial, trivial⟩ (fun _ _ _ h => h) ?_
    refine VA.va (i := 4) (listed' := LB 9 31) rfl (op_cutV' (i + l2.length) (l0.length + l2.length) (cutV_at0 (by omega)) Try.underlying23 TI33 rfl ⟨⟨_, _, rfl, by omega, Int.toNat_natCast _⟩, rfl, by omega, Nat.le_refl _⟩ hc2 (ltn rfl)) rfl (by kernel_rfl) (by kernel_rfl) (by kernel_rfl) (by kernel_rfl) ⟨trivial, trivial, trivial⟩ (fun _ _ _ h => h) ?_
    refine VA.va (i := 5) (listed' := LB 9 63) rfl (op_move rfl (ltn rfl)) rfl (by kernel_rfl) (by kernel_rfl) (by kernel_rfl) (by kernel_rfl) ⟨trivial, trivial, trivial⟩ (fun _ _ _ h => h) ?_
    refine VA.va (i := 6) (listed' := LB 9 127) rfl (op_move rfl (ltn rfl)) rfl (by kernel_rfl) (by kernel_rfl) (by kernel_rfl) (by kernel_rfl) ⟨trivial, trivial, trivial⟩ (fun _ _ _ h => h) ?_
    refine VA.va (i := 7) (listed' := LB 9 255) rfl (op_cutV' i l0.length (cutV_at0 (by omega)) Try.underlying23 TI33 rfl ⟨⟨_, _, rfl, by omega, Int.toNat_natCast _⟩, rfl, by omega, Nat.le_refl _⟩ hcap (ltn rfl)) rfl (by kernel_rfl) (by kernel_rfl) (by kernel_rfl) (by kernel_rfl) ⟨trivial, trivial, trivial⟩ (fun _ _ _ h => h) ?_
    refine VA.one1 (i := 8) (listed' := LB 9 511) (by kernel_rfl) rfl (o_copy (m := l0.length - i) (cs := (cur.drop (i * 6)).take ((l0.length - i) * 6)) 0 Try.underlying23 TI33 rfl rfl rfl (by omega) hd (by rw [hd, hol2]; omega) (src_box ((l0.length - i) * 6) 1 rfl rfl) h1c rfl (ltn rfl)) rfl (by kernel_rfl) ⟨trivial, trivial, trivial⟩ ?_
    refine VA.done (by kernel_rfl) (VN.then ?_)
    refine VC.seq (VC.region ?_)
    refine VL.va (op_move rfl (ltn rfl)) rfl ?_
    refine VL.va (op_assign rfl (ltn rfl)) rfl ?_
    refine VL.done (VN.then ?_)
    refine VC.ret (VR.then ?_)
    refine VR.closeBox 0 cap2 6 ((l0.take i ++ l2 ++ l0.drop i).map enc32) rfl (by rw [lenm, hfll]; exact hc2) hm2 (by rw [upd_len, hol2]; rw [hd, hol2]; omega) ?_ (flat_map enc32_ok _) ?_
    · rw [lenm, hfll, hfin, Nat.add_mul, Nat.add_mul]
      exact ins_grow (by rw [hlen]; omega) (by omega) hvl (by rw [← Nat.sub_mul])
    rw [lenm, hfll]
    exact VR.own (rs := [.tmp 6]) 0 [.row (.slice (some ⟨vb, 0, none⟩) l2.length c2) 6 (l2.map enc32), .lent (.slice (some ⟨vb, 0, none⟩) l2.length c2) 33 6 (l2.map enc32)] rfl (.tmp rfl .nil) rfl rfl rfl (fun _ => rfl)
  have : b8 = false := by rw [← hb8]; simp; omega
  subst this
  clear hb8
  refine VC.cond_f rfl (VC.skip (VN.then ?_))
  refine VC.seq (VC.region ?_)
  refine VL.va (op_move rfl (ltn rfl)) rfl ?_
  refine VL.va (op_move rfl (ltn rfl)) rfl ?_
  refine VL.va (op_move rfl (ltn rfl)) rfl ?_
  refine VL.va (op_ari64 (q := ((l0.length + l2.length : Nat) : Int)) rfl rfl (congrArg some (w64 (by omega) (by omega))) (ltn rfl)) rfl ?_
  refine VL.va (op_cutH' 0 (l0.length + l2.length) (v := .slice (some ⟨g, 0, none⟩) (l0.length + l2.length) cap) (by rw [cutV_at0 (.inr rfl)]; simp) Try.underlying23 TI33 rfl ⟨rfl, ⟨_, _, rfl, by omega, Int.toNat_natCast _⟩, Nat.zero_le _, by omega⟩ (ltn rfl)) rfl ?_
  refine VL.va (op_assign rfl (ltn rfl)) rfl ?_
  refine VL.done (VN.then ?_)
  have hcur1 : (upd cur ((i + l2.length) * 6) ((cur.drop (i * 6)).take ((l0.length - i) * 6))).length = cap * 6 := by rw [upd_len, hlen]; rw [hd, hlen]; omega
  refine VC.seq ?_
  refine VC.seq ?_
  refine VC.region ?_
  refine VL.va (op_move rfl (ltn rfl)) rfl ?_
  refine VL.va (op_move rfl (ltn rfl)) rfl ?_
  refine VL.va (op_move rfl (ltn rfl)) rfl ?_
  refine VL.va (op_move rfl (ltn rfl)) rfl ?_
  refine VL.va (op_ari64 (q := ((i + l2.length : Nat) : Int)) rfl rfl (congrArg some (w64 (by omega) (by omega))) (ltn rfl)) rfl ?_
  refine VL.va (op_cutV' (i + l2.length) (l0.length + l2.length) (cutV_at0 (by omega)) Try.underlying23 TI33 rfl ⟨⟨_, _, rfl, by omega, Int.toNat_natCast _⟩, rfl, by omega, Nat.le_refl _⟩ (by omega) (ltn rfl)) rfl ?_
  refine VL.va (op_call_ext rfl rfl (ltn rfl) (fun w hm => run_overlaps (tb := 4) (j := 1) 0 Try.func42 (by kernel_rfl) (by kernel_rfl) (by kernel_rfl) (by kernel_rfl) Try.underlying23 TI33 rfl rfl (by rw [hlen]; omega) hne w hm)) rfl ?_
  refine VL.va (op_not rfl rfl (ltn rfl)) rfl ?_
  refine VL.done (VN.then ?_)
  refine VC.cond_t rfl ?_
  refine VC.seq ?_
  refine VC.draw ⟨0, [], [], [], []⟩ (by kernel_rfl) rfl (by kernel_rfl) (n := 9) (listed := LB 9 0) ?_
  refine VA.va (i := 0) (listed' := LB 9 1) rfl (op_move rfl (ltn rfl)) rfl (by kernel_rfl) (by kernel_rfl) (by kernel_rfl) (by kernel_rfl) ⟨trivial, trivial, trivial⟩ (fun _ _ _ h => h) ?_
  refine VA.va (i := 1) (listed' := LB 9 3) rfl (op_move rfl (ltn rfl)) rfl (by kernel_rfl) (by kernel_rfl) (by kernel_rfl) (by kernel_rfl) ⟨trivial, trivial, trivial⟩ (fun _ _ _ h => h) ?_
  refine VA.va (i := 2) (listed' := LB 9 7) rfl (op_move rfl (ltn rfl)) rfl (by kernel_rfl) (by kernel_rfl) (by kernel_rfl) (by kernel_rfl) ⟨trivial, trivial, trivial⟩ (fun _ _ _ h => h) ?_
  refine VA.va (i := 3) (listed' := LB 9 15) rfl (op_ari64 (q := ((i + l2.length : Nat) : Int)) rfl rfl (congrArg some (w64 (by omega) (by omega))) (ltn rfl)) rfl (by kernel_rfl) (by kernel_rfl) (by kernel_rfl) (by kernel_rfl) ⟨trivial, trivial, trivial⟩ (fun _ _ _ h => h) ?_
  refine VA.va (i := 4) (listed' := LB 9 31) rfl (op_cutV' (i + l2.length) (l0.length + l2.length) (cutV_at0 (by omega)) Try.underlying23 TI33 rfl ⟨⟨_, _, rfl, by omega, Int.toNat_natCast _⟩, rfl, by omega, Nat.le_refl _⟩ (by omega) (ltn rfl)) rfl (by kernel_rfl) (by kernel_rfl) (by kernel_rfl) (by kernel_rfl) ⟨trivial, trivial, trivial⟩ (fun _ _ _ h => h) ?_
  refine VA.va (i := 5) (listed' := LB 9 63) rfl (op_move rfl (ltn rfl)) rfl (by kernel_rfl) (by kernel_rfl) (by kernel_rfl) (by kernel_rfl) ⟨trivial, trivial, trivial⟩ (fun _ _ _ h => h) ?_
  refine VA.va (i := 6) (listed' := LB 9 127) rfl (op_move rfl (ltn rfl)) rfl (by kernel_rfl) (by kernel_rfl) (by kernel_rfl) (by kernel_rfl) ⟨trivial, trivial, trivial⟩ (fun _ _ _ h => h) ?_
  refine VA.va (i := 7) (listed' := LB 9 255) rfl (op_cutV' i (l0.length + l2.length) (cutV_at0 (by omega)) Try.underlying23 TI33 rfl ⟨⟨_, _, rfl, by omega, Int.toNat_natCast _⟩, rfl, by omega, Nat.le_refl _⟩ (by omega) (ltn rfl)) rfl (by kernel_rfl) (by kernel_rfl) (by kernel_rfl) (by kernel_rfl) ⟨trivial, trivial, trivial⟩ (fun _ _ _ h => h) ?_
  refine VA.one1 (i := 8) (listed' := LB 9 511) (by kernel_rfl) rfl (o_copy (m := l0.length - i) (cs := (cur.drop (i * 6)).take ((l0.length - i) * 6)) 0 Try.underlying23 TI33 rfl rfl rfl (by omega) hd (by rw [hd, hlen]; omega) (src_box ((l0.length - i) * 6) 0 rfl rfl) h1c rfl (ltn rfl)) rfl (by kernel_rfl) ⟨trivial, trivial, trivial⟩ ?_
  refine VA.done (by kernel_rfl) (VN.then ?_)
  refine VC.seq (VC.region ?_)
  refine VL.va (op_move rfl (ltn rfl)) rfl ?_
  refine VL.va (op_move rfl (ltn rfl)) rfl ?_
  refine VL.va (op_cutV' i (l0.length + l2.length) (cutV_at0 (by omega)) Try.underlying23 TI33 rfl ⟨⟨_, _, rfl, h0, Int.toNat_natCast i⟩, rfl, by omega, Nat.le_refl _⟩ (by omega) (ltn rfl)) rfl ?_
  refine VL.va (op_move rfl (ltn rfl)) rfl ?_
  refine VL.step1 (o_copy (m := l2.length) 0 Try.underlying23 TI33 rfl rfl rfl (by omega) hvl (by rw [hvl, hcur1]; omega) (src_row 0 rfl) (flat_one hflv) rfl (ltn rfl)) rfl ?_
  refine VL.done (VN.then ?_)
  refine VC.seq (VC.region ?_)
  refine VL.va (op_move rfl (ltn rfl)) rfl ?_
  refine VL.va (op_assign rfl (ltn rfl)) rfl ?_
  refine VL.done (VN.then ?_)
  refine VC.ret (VR.then ?_)
  refine VR.closeBox 0 cap 6 ((l0.take i ++ l2 ++ l0.drop i).map enc32) rfl (by rw [lenm, hfll]; omega) hmx (by rw [upd_len, hcur1]; rw [hvl, hcur1]; omega) ?_ (flat_map enc32_ok _) ?_
  · rw [lenm, hfll, hfin, Nat.add_mul, Nat.add_mul]
    exact ins_fits (by rw [hlen]; omega) (by omega) hvl (by rw [← Nat.sub_mul])
  rw [lenm, hfll]
  exact VR.own (rs := [.tmp 6]) 0 [.row (.slice (some ⟨vb, 0, none⟩) l2.length c2) 6 (l2.map enc32), .lent (.slice (some ⟨vb, 0, none⟩) l2.length c2) 33 6 (l2.map enc32)] rfl (.tmp rfl .nil) rfl rfl rfl (fun _ => rfl)

end Go.Proofs.Ytibpoajlnloloaa.PStockBack
