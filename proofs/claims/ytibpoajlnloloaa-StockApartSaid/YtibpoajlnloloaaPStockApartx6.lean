/- Written by a program of this repo: what the program's functions do, each as a Lean function, shown of the loaded code; or a statement's row over that; no condition of its own. -/
import Derived.Test.YtibpoajlnloloaaPStockApartx5
namespace Go.Proofs.Ytibpoajlnloloaa.PStockApart
open Go Go.RowKit Go.Proofs.YtibpoajlnloloaaV
set_option linter.unusedVariables false
set_option linter.unusedSimpArgs false

set_option maxHeartbeats 4000000 in
set_option maxRecDepth 100000 in
theorem tarrylaw08_does.ok (k : Nat) (l0 : List S32) (a1 : ByteArray) (a2 : Int) (a3 : Int) (v0 : Value) (r1 : List S32) (r2 : Int) (h : tarrylaw08_does.f k l0 a1 a2 a3 = some (r1, r2)) :
    VCalls Try.prog 7 [v0, .string a1, .int .i64 a2, .int .i64 a3] [.row v0 6 (l0.map enc32)] (fun v G own => ∃ w0 : Value, v = .tuple #[w0, .int .i64 r2] ∧ G = [] ∧ own = [(w0, 33, 6, r1.map enc32)]) := by
  refine VCalls.intro Try.func7 rfl (len rfl) fun E hC => ?_
  unfold tarrylaw08_does.f at h
  refine VC.seq ?_
  refine VC.region ?_
  refine VL.va (op_assign rfl (ltn rfl)) rfl ?_
  refine VL.va (op_assign rfl (ltn rfl)) rfl ?_
  refine VL.done ?_
  refine VN.then ?_
  refine VC.seq ?_
  refine VC.seq ?_
  refine VC.region ?_
  refine VL.va (op_move rfl (ltn rfl)) rfl ?_
  refine VL.done ?_
  refine VN.then ?_
  refine VC.block ?_
  refine VC.seq ?_
  refine VC.region ?_
  refine VL.letter ((a3 == 1)) fun b2200 hb2200 => ?_
  refine VL.va (op_cmp rfl rfl (congrArg some hb2200) (ltn rfl)) rfl ?_
  refine VL.va (op_assign rfl (ltn rfl)) rfl ?_
  refine VL.done ?_
  refine VN.then ?_
  by_cases c2201 : a3 = 1
  · rw [if_pos c2201] at h
    obtain rfl : b2200 = true := hb2200.symm.trans (beq_iff_eq.2 c2201)
    refine VC.cond_t rfl ?_
    refine VC.seq ?_
    refine VC.region ?_
    refine VL.va (op_move rfl (ltn rfl)) rfl ?_
    refine VL.va (op_move rfl (ltn rfl)) rfl ?_
    refine VL.va (op_move rfl (ltn rfl)) rfl ?_
    replace h := Option.bind_eq_some_iff.1 h
    obtain ⟨⟨r2202, t2203⟩, hA2204, h⟩ := h
    dsimp only at h
    refine VL.sC (o_call0 FO13 (stock_Hold.ok k l0 a1 a2 v0 r2202 t2203 hA2204) rfl rfl (ltn rfl) (All_of (.cons (List.mem_of_getElem? (i := 0) rfl) .nil))) rfl ?_
    rintro _ _ _ ⟨v2206, rfl, rfl, rfl⟩
    refine VL.va (op_extract rfl rfl (ltn rfl)) rfl ?_
    refine VL.va (op_extract rfl rfl (ltn rfl)) rfl ?_
    refine VL.va (op_assign rfl (ltn rfl)) rfl ?_
    refine VL.va (op_assign rfl (ltn rfl)) rfl ?_
    refine VL.done ?_
    refine VN.then ?_
    refine VC.ret ?_
    refine VR.block ?_
    refine VR.then ?_
    simp only [Option.some.injEq, Prod.mk.injEq] at h
    obtain ⟨rfl, rfl⟩ := h
    exact VR.fn (rs := [.tmp 8, .tmp 9]) [] [(v2206, 33, 6, r2202.map enc32)] [0] rfl (.tmp rfl (.tmp rfl .nil)) ⟨v2206, rfl, rfl, rfl⟩ trivial rfl (by decide)
  · rw [if_neg c2201] at h
    obtain rfl : b2200 = false := hb2200.symm.trans (beq_eq_false_iff_ne.2 c2201)
    refine VC.cond_f rfl ?_
    refine VC.seq ?_
    refine VC.region ?_
    refine VL.letter ((a3 == 2)) fun b2207 hb2207 => ?_
    refine VL.va (op_cmp rfl rfl (congrArg some hb2207) (ltn rfl)) rfl ?_
    refine VL.va (op_assign rfl (ltn rfl)) rfl ?_
    refine VL.done ?_
    refine VN.then ?_
    by_cases c2208 : a3 = 2
    · rw [if_pos c2208] at h
      obtain rfl : b2207 = true := hb2207.symm.trans (beq_iff_eq.2 c2208)
      refine VC.cond_t rfl ?_
      refine VC.seq ?_
      refine VC.region ?_
      refine VL.va (op_move rfl (ltn rfl)) rfl ?_
      refine VL.va (op_move rfl (ltn rfl)) rfl ?_
      refine VL.va (op_move rfl (ltn rfl)) rfl ?_
      replace h := Option.bind_eq_some_iff.1 h
      obtain ⟨⟨r2209, t2210⟩, hA2211, h⟩ := h
      dsimp only at h
      refine VL.sC (o_call0 FO15 (stock_Release.ok k l0 a1 a2 v0 r2209 t2210 hA2211) rfl rfl (ltn rfl) (All_of (.cons (List.mem_of_getElem? (i := 0) rfl) .nil))) rfl ?_
      rintro _ _ _ ⟨v2213, rfl, rfl, rfl⟩
      refine VL.va (op_extract rfl rfl (ltn rfl)) rfl ?_
      refine VL.va (op_extract rfl rfl (ltn rfl)) rfl ?_
      refine VL.va (op_assign rfl (ltn rfl)) rfl ?_
      refine VL.va (op_assign rfl (ltn rfl)) rfl ?_
      refine VL.done ?_
      refine VN.then ?_
      refine VC.ret ?_
      refine VR.block ?_
      refine VR.then ?_
      simp only [Option.some.injEq, Prod.mk.injEq] at h
      obtain ⟨rfl, rfl⟩ := h
      exact VR.fn (rs := [.tmp 8, .tmp 9]) [] [(v2213, 33, 6, r2209.map enc32)] [0] rfl (.tmp rfl (.tmp rfl .nil)) ⟨v2213, rfl, rfl, rfl⟩ trivial rfl (by decide)
    · rw [if_neg c2208] at h
      obtain rfl : b2207 = false := hb2207.symm.trans (beq_eq_false_iff_ne.2 c2208)
      refine VC.cond_f rfl ?_
      refine VC.seq ?_
      refine VC.region ?_
      refine VL.letter ((a3 == 3)) fun b2214 hb2214 => ?_
      refine VL.va (op_cmp rfl rfl (congrArg some hb2214) (ltn rfl)) rfl ?_
      refine VL.va (op_assign rfl (ltn rfl)) rfl ?_
      refine VL.done ?_
      refine VN.then ?_
      by_cases c2215 : a3 = 3
      · rw [if_pos c2215] at h
        obtain rfl : b2214 = true := hb2214.symm.trans (beq_iff_eq.2 c2215)
        refine VC.cond_t rfl ?_
        refine VC.seq ?_
        refine VC.region ?_
        refine VL.va (op_move rfl (ltn rfl)) rfl ?_
        refine VL.va (op_move rfl (ltn rfl)) rfl ?_
        refine VL.va (op_move rfl (ltn rfl)) rfl ?_
        replace h := Option.bind_eq_some_iff.1 h
        obtain ⟨⟨r2216, t2217⟩, hA2218, h⟩ := h
        dsimp only at h
        refine VL.sC (o_call0 FO16 (stock_Ship.ok k l0 a1 a2 v0 r2216 t2217 hA2218) rfl rfl (ltn rfl) (All_of (.cons (List.mem_of_getElem? (i := 0) rfl) .nil))) rfl ?_
        rintro _ _ _ ⟨v2220, rfl, rfl, rfl⟩
        refine VL.va (op_extract rfl rfl (ltn rfl)) rfl ?_
        refine VL.va (op_extract rfl rfl (ltn rfl)) rfl ?_
        refine VL.va (op_assign rfl (ltn rfl)) rfl ?_
        refine VL.va (op_assign rfl (ltn rfl)) rfl ?_
        refine VL.done ?_
        refine VN.then ?_
        refine VC.ret ?_
        refine VR.block ?_
        refine VR.then ?_
        simp only [Option.some.injEq, Prod.mk.injEq] at h
        obtain ⟨rfl, rfl⟩ := h
        exact VR.fn (rs := [.tmp 8, .tmp 9]) [] [(v2220, 33, 6, r2216.map enc32)] [0] rfl (.tmp rfl (.tmp rfl .nil)) ⟨v2220, rfl, rfl, rfl⟩ trivial rfl (by decide)
      · rw [if_neg c2215] at h
        obtain rfl : b2214 = false := hb2214.symm.trans (beq_eq_false_iff_ne.2 c2215)
        refine VC.cond_f rfl ?_
        refine VC.skip ?_
        refine VN.block ?_
        refine VN.then ?_
        refine VC.seq ?_
        refine VC.region ?_
        refine VL.va (op_move rfl (ltn rfl)) rfl ?_
        refine VL.va (op_move rfl (ltn rfl)) rfl ?_
        refine VL.va (op_move rfl (ltn rfl)) rfl ?_
        replace h := Option.bind_eq_some_iff.1 h
        obtain ⟨⟨r2284, t2285⟩, hA2286, h⟩ := h
        dsimp only at h
        refine VL.sC (o_call0 FO21 (stock_Lose.ok k l0 a1 a2 v0 r2284 t2285 hA2286) rfl rfl (ltn rfl) (All_of (.cons (List.mem_of_getElem? (i := 0) rfl) .nil))) rfl ?_
        rintro _ _ _ ⟨v2288, rfl, rfl, rfl⟩
        refine VL.va (op_extract rfl rfl (ltn rfl)) rfl ?_
        refine VL.va (op_extract rfl rfl (ltn rfl)) rfl ?_
        refine VL.va (op_assign rfl (ltn rfl)) rfl ?_
        refine VL.va (op_assign rfl (ltn rfl)) rfl ?_
        refine VL.done ?_
        refine VN.then ?_
        refine VC.ret ?_
        simp only [Option.some.injEq, Prod.mk.injEq] at h
        obtain ⟨rfl, rfl⟩ := h
        exact VR.fn (rs := [.tmp 8, .tmp 9]) [] [(v2288, 33, 6, r2284.map enc32)] [0] rfl (.tmp rfl (.tmp rfl .nil)) ⟨v2288, rfl, rfl, rfl⟩ trivial rfl (by decide)
set_option maxHeartbeats 4000000 in
set_option maxRecDepth 100000 in
theorem tarryref08_Same.ok (k : Nat) (l0 : List S32) (l1 : List S32) (v0 : Value) (v1 : Value) (r1 : Bool) (h : tarryref08_Same.f k l0 l1 = some r1) :
    VCalls Try.prog 12 [v0, v1] [.row v0 6 (l0.map enc32), .row v1 6 (l1.map enc32)] (fun v G own => v = .bool r1 ∧ G = [] ∧ own = []) := by
  refine VCalls.intro Try.func12 rfl (len rfl) fun E hC => ?_
  unfold tarryref08_Same.f at h
  refine VC.seq ?_
  refine VC.region ?_
  refine VL.va (op_assign rfl (ltn rfl)) rfl ?_
  refine VL.done ?_
  refine VN.then ?_
  refine VC.seq ?_
  refine VC.seq ?_
  refine VC.region ?_
  refine VL.va (op_move rfl (ltn rfl)) rfl ?_
  refine VL.va (op_len (m := l0.length) 0 lenm Try.underlying23 rfl rfl (ltn rfl)) rfl ?_
  refine VL.va (op_move rfl (ltn rfl)) rfl ?_
  refine VL.va (op_len (m := l1.length) 1 lenm Try.underlying23 rfl rfl (ltn rfl)) rfl ?_
  refine VL.letter (((l0.length : Int) != (l1.length : Int))) fun b2350 hb2350 => ?_
  refine VL.va (op_cmp rfl rfl (congrArg some hb2350) (ltn rfl)) rfl ?_
  refine VL.done ?_
  refine VN.then ?_
  by_cases c2351 : (l0.length : Int) = (l1.length : Int)
  · rw [if_pos c2351] at h
    obtain rfl : b2350 = false := hb2350.symm.trans (bne_eq_false_iff_eq.2 c2351)
    refine VC.cond_f rfl ?_
    refine VC.skip ?_
    refine VN.then ?_
    refine VC.seq ?_
    refine VC.seq ?_
    refine VC.region ?_
    refine VL.va (op_move rfl (ltn rfl)) rfl ?_
    refine VL.va (op_len (m := l0.length) 0 lenm Try.underlying23 rfl rfl (ltn rfl)) rfl ?_
    refine VL.va (op_move rfl (ltn rfl)) rfl ?_
    refine VL.done ?_
    refine VN.then ?_
    refine VC.block ?_
    refine VC.loop1 (fun (i2405 : Int) => ⟨26, [(0, v0), (1, v1), (4, .bool false), (12, .int .i64 (l0.length : Int)), (13, .int .i64 i2405)], [.row v0 6 (l0.map enc32), .row v1 6 (l1.map enc32)], [], []⟩) (fun (ml1 : Nat) (i2405 : Int) => tarryref08_Same.l1 k l0 l1 ml1 i2405 = some r1) k 0 [] [] h ⟨rfl, ⟨rfl, rfl, rfl, rfl, rfl, trivial⟩, ⟨⟨0, rfl⟩, ⟨1, rfl⟩, trivial⟩, rfl, by decide, rfl, by decide⟩ (by intros; simp [tarryref08_Same.l1]) ?_
    clear h
    intro ml1 ihl1 i2405 h
    simp only [tarryref08_Same.l1] at h
    refine VC.seq ?_
    refine VC.region ?_
    refine VL.letter (decide (i2405 < (l0.length : Int))) fun b2419 hb2419 => ?_
    refine VL.va (op_cmp rfl rfl (congrArg some hb2419) (ltn rfl)) rfl ?_
    refine VL.done ?_
    refine VN.then ?_
    refine VC.seq ?_
    by_cases c2421 : i2405 < (l0.length : Int)
    · rw [if_pos c2421] at h
      obtain rfl : b2419 = true := hb2419.symm.trans (decide_eq_true c2421)
      refine VC.cond_t rfl ?_
      refine VC.skip ?_
      refine VN.then ?_
      refine VC.seq ?_
      refine VC.block ?_
      refine VC.seq ?_
      refine VC.region ?_
      refine VL.va (op_move rfl (ltn rfl)) rfl ?_
      refine VL.va (op_assign rfl (ltn rfl)) rfl ?_
      refine VL.done ?_
      refine VN.then ?_
      by_cases c2427 : 0 ≤ i2405
      · rw [if_pos c2427] at h
        replace h := Option.bind_eq_some_iff.1 h
        obtain ⟨x2428, hx2428, h⟩ := h
        replace h := Option.bind_eq_some_iff.1 h
        obtain ⟨x2429, hx2429, h⟩ := h
        refine VC.letter ((!(((x2428.f0 == x2429.f0) && ((x2428.f1 == x2429.f1) && ((x2428.f2 == x2429.f2) && ((x2428.f3 == x2429.f3) && ((x2428.f4 == x2429.f4) && (x2428.f5 == x2429.f5))))))))) fun b2430 hb2430 => ?_
        refine VC.open (m := l0.length) 0 lenm rfl (pos_get hx2428) ?_
        rintro ad2356 n2357 rfl
        refine VC.open (m := l1.length) 1 lenm rfl (pos_get hx2429) ?_
        rintro ad2359 n2360 rfl
        refine VC.join0 (⟨26, [(0, (.slice (some ad2356) l0.length n2357)), (1, (.slice (some ad2359) l1.length n2360)), (4, .bool false), (5, .int .i64 i2405), (12, .int .i64 (l0.length : Int)), (13, .int .i64 i2405), (14, .bool true), (15, .int .i64 i2405), (16, (.slice (some ad2356) l0.length n2357)), (17, .int .i64 i2405), (19, .agg #[.string x2428.f0, .int .i64 x2428.f1, .int .i64 x2428.f2, .int .i64 x2428.f3, .int .i64 x2428.f4, .int .i64 x2428.f5]), (20, (.slice (some ad2359) l1.length n2360)), (21, .int .i64 i2405), (23, .agg #[.string x2429.f0, .int .i64 x2429.f1, .int .i64 x2429.f2, .int .i64 x2429.f3, .int .i64 x2429.f4, .int .i64 x2429.f5]), (24, .bool b2430)], [.row (.slice (some ad2356) l0.length n2357) 6 (l0.map enc32), .row (.slice (some ad2359) l1.length n2360) 6 (l1.map enc32)], [], []⟩) (True) ?_ ?_
        · refine VC.draw ⟨0, [], [.row (.slice (some ad2356) l0.length n2357) 6 (l0.map enc32), .row (.slice (some ad2359) l1.length n2360) 6 (l1.map enc32)], [], []⟩ (by kernel_rfl) rfl (by kernel_rfl) (n := 9) (listed := LB 9 0) ?_
          refine VA.va (i := 0) (listed' := LB 9 1) rfl (op_move rfl (ltn rfl)) rfl (by kernel_rfl) (by kernel_rfl) (by kernel_rfl) (by kernel_rfl) ⟨⟨⟨0, rfl⟩, ⟨1, rfl⟩, trivial⟩, trivial, trivial⟩ (fun _ _ _ h => h) ?_
          refine VA.va (i := 1) (listed' := LB 9 3) rfl (op_move rfl (ltn rfl)) rfl (by kernel_rfl) (by kernel_rfl) (by kernel_rfl) (by kernel_rfl) ⟨⟨⟨0, rfl⟩, ⟨1, rfl⟩, trivial⟩, trivial, trivial⟩ (fun _ _ _ h => h) ?_
          refine VA.va (i := 2) (listed' := LB 9 7) rfl (op_indexAddr Try.underlying23 TI33 rfl rfl c2427 (lt_get c2427 hx2428) rfl (ltn rfl)) rfl (by kernel_rfl) (by kernel_rfl) (by kernel_rfl) (by kernel_rfl) ⟨⟨⟨0, rfl⟩, ⟨1, rfl⟩, trivial⟩, trivial, trivial⟩ (fun _ _ _ h => h) ?_
          refine VA.va (i := 3) (listed' := LB 9 15) rfl (op_load_row (sz := 6) (o := 0) 0 i2405.toNat 6 rfl rfl (get_map hx2428) TI33 rfl (fun h => absurd h (by decide)) (ltn rfl)) rfl (by kernel_rfl) (by kernel_rfl) (by kernel_rfl) (by kernel_rfl) ⟨⟨⟨0, rfl⟩, ⟨1, rfl⟩, trivial⟩, trivial, trivial⟩ (fun _ _ _ h => h) ?_
          refine VA.va (i := 4) (listed' := LB 9 31) rfl (op_move rfl (ltn rfl)) rfl (by kernel_rfl) (by kernel_rfl) (by kernel_rfl) (by kernel_rfl) ⟨⟨⟨0, rfl⟩, ⟨1, rfl⟩, trivial⟩, trivial, trivial⟩ (fun _ _ _ h => h) ?_
          refine VA.va (i := 5) (listed' := LB 9 63) rfl (op_move rfl (ltn rfl)) rfl (by kernel_rfl) (by kernel_rfl) (by kernel_rfl) (by kernel_rfl) ⟨⟨⟨0, rfl⟩, ⟨1, rfl⟩, trivial⟩, trivial, trivial⟩ (fun _ _ _ h => h) ?_
          refine VA.va (i := 6) (listed' := LB 9 127) rfl (op_indexAddr Try.underlying23 TI33 rfl rfl c2427 (lt_get c2427 hx2429) rfl (ltn rfl)) rfl (by kernel_rfl) (by kernel_rfl) (by kernel_rfl) (by kernel_rfl) ⟨⟨⟨0, rfl⟩, ⟨1, rfl⟩, trivial⟩, trivial, trivial⟩ (fun _ _ _ h => h) ?_
          refine VA.va (i := 7) (listed' := LB 9 255) rfl (op_load_row (sz := 6) (o := 0) 1 i2405.toNat 6 rfl rfl (get_map hx2429) TI33 rfl (fun h => absurd h (by decide)) (ltn rfl)) rfl (by kernel_rfl) (by kernel_rfl) (by kernel_rfl) (by kernel_rfl) ⟨⟨⟨0, rfl⟩, ⟨1, rfl⟩, trivial⟩, trivial, trivial⟩ (fun _ _ _ h => h) ?_
          refine VA.va (i := 8) (listed' := LB 9 511) rfl (op_neS rfl rfl EG33 (EQ33 x2428.f0 x2428.f1 x2428.f2 x2428.f3 x2428.f4 x2428.f5 x2429.f0 x2429.f1 x2429.f2 x2429.f3 x2429.f4 x2429.f5) hb2430 (ltn rfl)) rfl (by kernel_rfl) (by kernel_rfl) (by kernel_rfl) (by kernel_rfl) ⟨⟨⟨0, rfl⟩, ⟨1, rfl⟩, trivial⟩, trivial, trivial⟩ (fun _ _ _ h => h) ?_
          refine VA.done (by kernel_rfl) ?_
          exact VN.meet0  [] [] trivial ⟨rfl, ⟨rfl, rfl, rfl, rfl, rfl, rfl, rfl, rfl, rfl, rfl, rfl, rfl, rfl, rfl, rfl, trivial⟩, ⟨⟨0, rfl⟩, ⟨1, rfl⟩, trivial⟩, rfl, by decide, rfl, by decide⟩
        intro _
        by_cases c2431 : (((x2428.f0 == x2429.f0) && ((x2428.f1 == x2429.f1) && ((x2428.f2 == x2429.f2) && ((x2428.f3 == x2429.f3) && ((x2428.f4 == x2429.f4) && (x2428.f5 == x2429.f5))))))) = true
        · rw [if_pos c2431] at h
          obtain rfl : b2430 = false := hb2430.symm.trans (not_t c2431)
          refine VC.cond_f rfl ?_
          refine VC.skip ?_
          refine VN.block ?_
          refine VN.then ?_
          refine VC.region ?_
          refine VL.va (op_ari64 rfl rfl rfl (ltn rfl)) rfl ?_
          refine VL.va (op_move rfl (ltn rfl)) rfl ?_
          refine VL.done ?_
          refine VN.again [] [] (ihl1 (wrap64 (i2405 + 1)) h) ⟨rfl, ⟨rfl, rfl, rfl, rfl, rfl, trivial⟩, ⟨⟨0, rfl⟩, ⟨1, rfl⟩, trivial⟩, rfl, by decide, rfl, by decide⟩
        · rw [if_neg c2431] at h
          obtain rfl : b2430 = true := hb2430.symm.trans (not_f c2431)
          refine VC.cond_t rfl ?_
          refine VC.seq ?_
          refine VC.region ?_
          refine VL.va (op_assign rfl (ltn rfl)) rfl ?_
          refine VL.done ?_
          refine VN.then ?_
          refine VC.ret ?_
          refine VR.block ?_
          refine VR.then ?_
          refine VR.then ?_
          refine VR.block ?_
          refine VR.then ?_
          obtain rfl := Option.some.inj h
          exact VR.fn (rs := [.tmp 4]) [] [] [] rfl (.tmp rfl .nil) ⟨rfl, rfl, rfl⟩ trivial rfl (by decide)
      · rw [if_neg c2427] at h; cases h
    · rw [if_neg c2421] at h
      obtain rfl : b2419 = false := hb2419.symm.trans (decide_eq_false c2421)
      refine VC.cond_f rfl ?_
      refine VC.exit ?_
      refine VX.then ?_
      refine VX.then ?_
      refine VX.hit ?_
      refine VN.then ?_
      refine VC.seq ?_
      refine VC.region ?_
      refine VL.va (op_assign rfl (ltn rfl)) rfl ?_
      refine VL.done ?_
      refine VN.then ?_
      refine VC.ret ?_
      obtain rfl := Option.some.inj h
      exact VR.fn (rs := [.tmp 4]) [] [] [] rfl (.tmp rfl .nil) ⟨rfl, rfl, rfl⟩ trivial rfl (by decide)
  · rw [if_neg c2351] at h
    obtain rfl : b2350 = true := hb2350.symm.trans (bne_iff_ne.2 c2351)
    refine VC.cond_t rfl ?_
    refine VC.seq ?_
    refine VC.region ?_
    refine VL.va (op_assign rfl (ltn rfl)) rfl ?_
    refine VL.done ?_
    refine VN.then ?_
    refine VC.ret ?_
    refine VR.then ?_
    obtain rfl := Option.some.inj h
    exact VR.fn (rs := [.tmp 4]) [] [] [] rfl (.tmp rfl .nil) ⟨rfl, rfl, rfl⟩ trivial rfl (by decide)
set_option maxHeartbeats 4000000 in
set_option maxRecDepth 100000 in
theorem tarrylaw08_StockApart.ok (k : Nat) (l0 : List S32) (a1 : ByteArray) (a2 : ByteArray) (a3 : Int) (a4 : Int) (a5 : Int) (a6 : Int) (v0 : Value) (r1 : Bool) (h : tarrylaw08_StockApart.f k l0 a1 a2 a3 a4 a5 a6 = some r1) :
    VCalls Try.prog 4 [v0, .string a1, .string a2, .int .i64 a3, .int .i64 a4, .int .i64 a5, .int .i64 a6] [.row v0 6 (l0.map enc32)] (fun v G own => v = .bool r1 ∧ G = [] ∧ own = []) := by
  refine VCalls.intro Try.func4 rfl (len rfl) fun E hC => ?_
  unfold tarrylaw08_StockApart.f at h
  refine VC.seq ?_
  refine VC.region ?_
  refine VL.va (op_assign rfl (ltn rfl)) rfl ?_
  refine VL.done ?_
  refine VN.then ?_
  replace h := Option.bind_eq_some_iff.1 h
  obtain ⟨r111, hA112, h⟩ := h
  by_cases c115 : 0 ≤ mn (a1.size : Int) 18
  · rw [if_pos c115] at h
    by_cases c116 : (mn (a1.size : Int) 18) ≤ (a1.size : Int)
    · rw [if_pos c116] at h
      by_cases c117 : 0 ≤ mn (a2.size : Int) 18
      · rw [if_pos c117] at h
        by_cases c118 : (mn (a2.size : Int) 18) ≤ (a2.size : Int)
        · rw [if_pos c118] at h
          refine VC.join1 (fun (v114 : Value) => ⟨114, [(0, v114), (1, .string (a1.extract 0 ((mn (a1.size : Int) 18).toNat))), (2, .string (a2.extract 0 ((mn (a2.size : Int) 18).toNat))), (3, .int .i64 a3), (4, .int .i64 a4), (5, .int .i64 a5), (6, .int .i64 a6), (14, .bool false)], [], [], [(v114, 33, 6, r111.map enc32)]⟩) (fun (v114 : Value) => True) ?_ ?_
          · refine VC.draw ⟨0, [], [], [], []⟩ (by kernel_rfl) rfl (by kernel_rfl) (n := 15) (listed := LB 15 0) ?_
            refine VA.more ⟨0, [], [.row v0 6 (l0.map enc32)], [], []⟩ ⟨trivial, trivial, trivial⟩ ?_
            refine VA.va (i := 0) (listed' := LB 15 1) rfl (op_move rfl (ltn rfl)) rfl (by kernel_rfl) (by kernel_rfl) (by kernel_rfl) (by kernel_rfl) ⟨⟨⟨0, rfl⟩, trivial⟩, trivial, trivial⟩ (fun _ _ _ h => h) ?_
            refine VA.va (i := 2) (listed' := LB 15 5) rfl (op_move rfl (ltn rfl)) rfl (by kernel_rfl) (by kernel_rfl) (by kernel_rfl) (by kernel_rfl) ⟨⟨⟨0, rfl⟩, trivial⟩, trivial, trivial⟩ (fun _ _ _ h => h) ?_
            refine VA.va (i := 3) (listed' := LB 15 13) rfl (op_move rfl (ltn rfl)) rfl (by kernel_rfl) (by kernel_rfl) (by kernel_rfl) (by kernel_rfl) ⟨⟨⟨0, rfl⟩, trivial⟩, trivial, trivial⟩ (fun _ _ _ h => h) ?_
            refine VA.va (i := 4) (listed' := LB 15 29) rfl (op_lens Try.underlying9 rfl (ltn rfl)) rfl (by kernel_rfl) (by kernel_rfl) (by kernel_rfl) (by kernel_rfl) ⟨⟨⟨0, rfl⟩, trivial⟩, trivial, trivial⟩ (fun _ _ _ h => h) ?_
            refine VA.va (i := 5) (listed' := LB 15 61) rfl (op_min rfl rfl (ltn rfl)) rfl (by kernel_rfl) (by kernel_rfl) (by kernel_rfl) (by kernel_rfl) ⟨⟨⟨0, rfl⟩, trivial⟩, trivial, trivial⟩ (fun _ _ _ h => h) ?_
            refine VA.va (i := 6) (listed' := LB 15 125) rfl (op_sliceS 0 ((mn (a1.size : Int) 18).toNat) Try.underlying9 rfl ⟨rfl, ⟨_, _, rfl, c115, rfl⟩, by omega, by omega⟩ rfl (ltn rfl)) rfl (by kernel_rfl) (by kernel_rfl) (by kernel_rfl) (by kernel_rfl) ⟨⟨⟨0, rfl⟩, trivial⟩, trivial, trivial⟩ (fun _ _ _ h => h) ?_
            refine VA.va (i := 7) (listed' := LB 15 253) rfl (op_move rfl (ltn rfl)) rfl (by kernel_rfl) (by kernel_rfl) (by kernel_rfl) (by kernel_rfl) ⟨⟨⟨0, rfl⟩, trivial⟩, trivial, trivial⟩ (fun _ _ _ h => h) ?_
            refine VA.va (i := 8) (listed' := LB 15 509) rfl (op_move rfl (ltn rfl)) rfl (by kernel_rfl) (by kernel_rfl) (by kernel_rfl) (by kernel_rfl) ⟨⟨⟨0, rfl⟩, trivial⟩, trivial, trivial⟩ (fun _ _ _ h => h) ?_
            refine VA.va (i := 9) (listed' := LB 15 1021) rfl (op_lens Try.underlying9 rfl (ltn rfl)) rfl (by kernel_rfl) (by kernel_rfl) (by kernel_rfl) (by kernel_rfl) ⟨⟨⟨0, rfl⟩, trivial⟩, trivial, trivial⟩ (fun _ _ _ h => h) ?_
            refine VA.va (i := 10) (listed' := LB 15 2045) rfl (op_min rfl rfl (ltn rfl)) rfl (by kernel_rfl) (by kernel_rfl) (by kernel_rfl) (by kernel_rfl) ⟨⟨⟨0, rfl⟩, trivial⟩, trivial, trivial⟩ (fun _ _ _ h => h) ?_
            refine VA.va (i := 11) (listed' := LB 15 4093) rfl (op_sliceS 0 ((mn (a2.size : Int) 18).toNat) Try.underlying9 rfl ⟨rfl, ⟨_, _, rfl, c117, rfl⟩, by omega, by omega⟩ rfl (ltn rfl)) rfl (by kernel_rfl) (by kernel_rfl) (by kernel_rfl) (by kernel_rfl) ⟨⟨⟨0, rfl⟩, trivial⟩, trivial, trivial⟩ (fun _ _ _ h => h) ?_
            refine VA.oneC (i := 1) (listed' := LB 15 4095) (by kernel_rfl) rfl (o_call0 FO11 (tarrylaw08_few.ok k l0 v0 r111 hA112) rfl rfl (ltn rfl) (All_of (.cons (List.mem_of_getElem? (i := 0) rfl) .nil))) rfl (by kernel_rfl) ?_
            rintro v114 _ _ ⟨_, rfl, rfl, rfl⟩
            refine ⟨⟨⟨⟨0, rfl⟩, trivial⟩, trivial, trivial⟩, ?_⟩
            refine VA.more ⟨0, [], [.row v0 6 (l0.map enc32)], [], [(v114, 33, 6, r111.map enc32)]⟩ ⟨⟨⟨0, rfl⟩, trivial⟩, trivial, trivial⟩ ?_
            refine VA.va (i := 12) (listed' := LB 15 8191) rfl (op_assign rfl (ltn rfl)) rfl (by kernel_rfl) (by kernel_rfl) (by kernel_rfl) (by kernel_rfl) ⟨⟨⟨0, rfl⟩, trivial⟩, trivial, ⟨⟨0, rfl⟩, trivial⟩⟩ (fun _ _ _ h => h) ?_
            refine VA.va (i := 13) (listed' := LB 15 16383) rfl (op_assign rfl (ltn rfl)) rfl (by kernel_rfl) (by kernel_rfl) (by kernel_rfl) (by kernel_rfl) ⟨⟨⟨0, rfl⟩, trivial⟩, trivial, ⟨⟨0, rfl⟩, trivial⟩⟩ (fun _ _ _ h => h) ?_
            refine VA.va (i := 14) (listed' := LB 15 32767) rfl (op_assign rfl (ltn rfl)) rfl (by kernel_rfl) (by kernel_rfl) (by kernel_rfl) (by kernel_rfl) ⟨⟨⟨0, rfl⟩, trivial⟩, trivial, ⟨⟨0, rfl⟩, trivial⟩⟩ (fun _ _ _ h => h) ?_
            refine VA.done (by kernel_rfl) ?_
            exact VN.meet1 v114 [] [0] trivial ⟨rfl, ⟨rfl, rfl, rfl, rfl, rfl, rfl, rfl, rfl, trivial⟩, trivial, rfl, by decide, rfl, by decide⟩
          intro v114 _
          refine VC.seq ?_
          refine VC.region ?_
          refine VL.va (op_move rfl (ltn rfl)) rfl ?_
          refine VL.va (op_rem rfl rfl (by decide) rfl (ltn rfl)) rfl ?_
          refine VL.va (op_ari64 rfl rfl rfl (ltn rfl)) rfl ?_
          refine VL.va (op_rem rfl rfl (by decide) rfl (ltn rfl)) rfl ?_
          refine VL.va (op_ari64 rfl rfl rfl (ltn rfl)) rfl ?_
          refine VL.va (op_move rfl (ltn rfl)) rfl ?_
          refine VL.va (op_rem rfl rfl (by decide) rfl (ltn rfl)) rfl ?_
          refine VL.va (op_ari64 rfl rfl rfl (ltn rfl)) rfl ?_
          refine VL.va (op_rem rfl rfl (by decide) rfl (ltn rfl)) rfl ?_
          refine VL.va (op_ari64 rfl rfl rfl (ltn rfl)) rfl ?_
          refine VL.va (op_assign rfl (ltn rfl)) rfl ?_
          refine VL.va (op_assign rfl (ltn rfl)) rfl ?_
          refine VL.done ?_
          refine VN.then ?_
          refine VC.seq ?_
          refine VC.seq ?_
          refine VC.region ?_
          refine VL.va (op_move rfl (ltn rfl)) rfl ?_
          refine VL.va (op_move rfl (ltn rfl)) rfl ?_
          refine VL.letter (((a1.extract 0 ((mn (a1.size : Int) 18).toNat)) == (a2.extract 0 ((mn (a2.size : Int) 18).toNat)))) fun b2048 hb2048 => ?_
          refine VL.va (op_cmps rfl rfl (congrArg some hb2048) (ltn rfl)) rfl ?_
          refine VL.done ?_
          refine VN.then ?_
          by_cases c2049 : ((a1.extract 0 ((mn (a1.size : Int) 18).toNat)) == (a2.extract 0 ((mn (a2.size : Int) 18).toNat))) = true
          · rw [if_pos c2049] at h
            obtain rfl : b2048 = true := hb2048.symm.trans (c2049)
            refine VC.cond_t rfl ?_
            refine VC.seq ?_
            refine VC.region ?_
            replace h := Option.bind_eq_some_iff.1 h
            obtain ⟨t2050, hA2051, h⟩ := h
            refine VL.sC (o_call0 FO10 (tarrylaw08_alive.ok k t2050 hA2051) rfl rfl (ltn rfl) (All_of .nil)) rfl ?_
            rintro _ _ _ ⟨rfl, rfl, rfl⟩
            refine VL.va (op_assign rfl (ltn rfl)) rfl ?_
            refine VL.done ?_
            refine VN.then ?_
            refine VC.ret ?_
            refine VR.then ?_
            obtain rfl := Option.some.inj h
            exact VR.fn (rs := [.tmp 14]) [] [] [] rfl (.tmp rfl .nil) ⟨rfl, rfl, rfl⟩ trivial rfl (by decide)
          · rw [if_neg c2049] at h
            obtain rfl : b2048 = false := hb2048.symm.trans (Bool.eq_false_iff.2 c2049)
            refine VC.cond_f rfl ?_
            refine VC.skip ?_
            refine VN.then ?_
            refine VC.seq ?_
            refine VC.region ?_
            refine VL.va (op_move rfl (ltn rfl)) rfl ?_
            refine VL.va (op_move rfl (ltn rfl)) rfl ?_
            refine VL.va (op_move rfl (ltn rfl)) rfl ?_
            refine VL.va (op_move rfl (ltn rfl)) rfl ?_
            replace h := Option.bind_eq_some_iff.1 h
            obtain ⟨⟨r2289, t2290⟩, hA2291, h⟩ := h
            dsimp only at h
            refine VL.sC (o_call_b0 FO7 (tarrylaw08_does.ok k r111 (a1.extract 0 ((mn (a1.size : Int) 18).toNat)) a3 (wrap64 (1 + ((wrap64 ((a5.tmod 4) + 4)).tmod 4))) v114 r2289 t2290 hA2291) rfl rfl (ltn rfl) (All_of (.cons (.inr (.inl ⟨_, List.mem_of_getElem? (i := 0) rfl, rfl⟩)) .nil)) (by rintro _ _ _ ⟨v2293, rfl, rfl, rfl⟩; rfl)) rfl ?_
            rintro _ _ _ ⟨v2293, rfl, rfl, rfl⟩
            refine VL.va (op_move rfl (ltn rfl)) rfl ?_
            refine VL.va (op_extract rfl rfl (ltn rfl)) rfl ?_
            refine VL.va (op_extract rfl rfl (ltn rfl)) rfl ?_
            refine VL.va (op_assign rfl (ltn rfl)) rfl ?_
            refine VL.va (op_assign rfl (ltn rfl)) rfl ?_
            refine VL.done ?_
            refine VN.then ?_
            refine VC.seq ?_
            refine VC.region ?_
            refine VL.va (op_move rfl (ltn rfl)) rfl ?_
            refine VL.va (op_move rfl (ltn rfl)) rfl ?_
            refine VL.va (op_move rfl (ltn rfl)) rfl ?_
            refine VL.va (op_move rfl (ltn rfl)) rfl ?_
            replace h := Option.bind_eq_some_iff.1 h
            obtain ⟨⟨r2294, t2295⟩, hA2296, h⟩ := h
            dsimp only at h
            refine VL.sC (o_call_b0 FO7 (tarrylaw08_does.ok k r111 (a2.extract 0 ((mn (a2.size : Int) 18).toNat)) a4 (wrap64 (1 + ((wrap64 ((a6.tmod 4) + 4)).tmod 4))) v114 r2294 t2295 hA2296) rfl rfl (ltn rfl) (All_of (.cons (.inr (.inl ⟨_, List.mem_of_getElem? (i := 1) rfl, rfl⟩)) .nil)) (by rintro _ _ _ ⟨v2298, rfl, rfl, rfl⟩; rfl)) rfl ?_
            rintro _ _ _ ⟨v2298, rfl, rfl, rfl⟩
            refine VL.va (op_move rfl (ltn rfl)) rfl ?_
            refine VL.va (op_extract rfl rfl (ltn rfl)) rfl ?_
            refine VL.va (op_extract rfl rfl (ltn rfl)) rfl ?_
            refine VL.va (op_assign rfl (ltn rfl)) rfl ?_
            refine VL.va (op_assign rfl (ltn rfl)) rfl ?_
            refine VL.done ?_
            refine VN.then ?_
            refine VC.seq ?_
            refine VC.seq ?_
            refine VC.region ?_
            refine VL.va (op_move rfl (ltn rfl)) rfl ?_
            refine VL.letter ((t2290 != 0)) fun b2325 hb2325 => ?_
            refine VL.va (op_cmp rfl rfl (congrArg some hb2325) (ltn rfl)) rfl ?_
            refine VL.va (op_move rfl (ltn rfl)) rfl ?_
            by_cases c2326 : t2290 = 0
            · rw [if_pos c2326] at h
              obtain rfl : b2325 = false := hb2325.symm.trans (bne_eq_false_iff_eq.2 c2326)
              refine VL.va (op_move rfl (ltn rfl)) rfl ?_
              refine VL.letter ((t2295 != 0)) fun b2327 hb2327 => ?_
              refine VL.va (op_cmp rfl rfl (congrArg some hb2327) (ltn rfl)) rfl ?_
              refine VL.va (op_pick rfl rfl (ltn rfl)) rfl ?_
              refine VL.done ?_
              refine VN.then ?_
              by_cases c2328 : t2295 = 0
              · rw [if_pos c2328] at h
                obtain rfl : b2327 = false := hb2327.symm.trans (bne_eq_false_iff_eq.2 c2328)
                refine VC.cond_f rfl ?_
                refine VC.skip ?_
                refine VN.then ?_
                refine VC.seq ?_
                refine VC.region ?_
                refine VL.va (op_move rfl (ltn rfl)) rfl ?_
                refine VL.va (op_move rfl (ltn rfl)) rfl ?_
                refine VL.va (op_move rfl (ltn rfl)) rfl ?_
                refine VL.va (op_move rfl (ltn rfl)) rfl ?_
                replace h := Option.bind_eq_some_iff.1 h
                obtain ⟨⟨r2329, t2330⟩, hA2331, h⟩ := h
                dsimp only at h
                refine VL.sC (o_call_b0 FO7 (tarrylaw08_does.ok k r2289 (a2.extract 0 ((mn (a2.size : Int) 18).toNat)) a4 (wrap64 (1 + ((wrap64 ((a6.tmod 4) + 4)).tmod 4))) v2293 r2329 t2330 hA2331) rfl rfl (ltn rfl) (All_of (.cons (.inr (.inl ⟨_, List.mem_of_getElem? (i := 1) rfl, rfl⟩)) .nil)) (by rintro _ _ _ ⟨v2333, rfl, rfl, rfl⟩; rfl)) rfl ?_
                rintro _ _ _ ⟨v2333, rfl, rfl, rfl⟩
                refine VL.va (op_move rfl (ltn rfl)) rfl ?_
                refine VL.va (op_extract rfl rfl (ltn rfl)) rfl ?_
                refine VL.va (op_extract rfl rfl (ltn rfl)) rfl ?_
                refine VL.va (op_assign rfl (ltn rfl)) rfl ?_
                refine VL.va (op_assign rfl (ltn rfl)) rfl ?_
                refine VL.done ?_
                refine VN.then ?_
                refine VC.seq ?_
                refine VC.region ?_
                refine VL.va (op_move rfl (ltn rfl)) rfl ?_
                refine VL.va (op_move rfl (ltn rfl)) rfl ?_
                refine VL.va (op_move rfl (ltn rfl)) rfl ?_
                refine VL.va (op_move rfl (ltn rfl)) rfl ?_
                replace h := Option.bind_eq_some_iff.1 h
                obtain ⟨⟨r2334, t2335⟩, hA2336, h⟩ := h
                dsimp only at h
                refine VL.sC (o_call_b0 FO7 (tarrylaw08_does.ok k r2294 (a1.extract 0 ((mn (a1.size : Int) 18).toNat)) a3 (wrap64 (1 + ((wrap64 ((a5.tmod 4) + 4)).tmod 4))) v2298 r2334 t2335 hA2336) rfl rfl (ltn rfl) (All_of (.cons (.inr (.inl ⟨_, List.mem_of_getElem? (i := 1) rfl, rfl⟩)) .nil)) (by rintro _ _ _ ⟨v2338, rfl, rfl, rfl⟩; rfl)) rfl ?_
                rintro _ _ _ ⟨v2338, rfl, rfl, rfl⟩
                refine VL.va (op_move rfl (ltn rfl)) rfl ?_
                refine VL.va (op_extract rfl rfl (ltn rfl)) rfl ?_
                refine VL.va (op_extract rfl rfl (ltn rfl)) rfl ?_
                refine VL.va (op_assign rfl (ltn rfl)) rfl ?_
                refine VL.va (op_assign rfl (ltn rfl)) rfl ?_
                refine VL.done ?_
                refine VN.then ?_
                refine VC.seq ?_
                refine VC.region ?_
                replace h := Option.bind_eq_some_iff.1 h
                obtain ⟨t2437, hA2438, h⟩ := h
                refine VL.sC (o_call0 FO10 (tarrylaw08_alive.ok k t2437 hA2438) rfl rfl (ltn rfl) (All_of .nil)) rfl ?_
                rintro _ _ _ ⟨rfl, rfl, rfl⟩
                refine VL.va (op_move rfl (ltn rfl)) rfl ?_
                by_cases c2439 : t2437 = true
                · rw [if_pos c2439] at h
                  obtain rfl := c2439
                  refine VL.va (op_move rfl (ltn rfl)) rfl ?_
                  refine VL.letter ((t2330 == 0)) fun b2440 hb2440 => ?_
                  refine VL.va (op_cmp rfl rfl (congrArg some hb2440) (ltn rfl)) rfl ?_
                  refine VL.va (op_pick rfl rfl (ltn rfl)) rfl ?_
                  refine VL.va (op_move rfl (ltn rfl)) rfl ?_
                  by_cases c2441 : t2330 = 0
                  · rw [if_pos c2441] at h
                    obtain rfl : b2440 = true := hb2440.symm.trans (beq_iff_eq.2 c2441)
                    refine VL.va (op_move rfl (ltn rfl)) rfl ?_
                    refine VL.letter ((t2335 == 0)) fun b2442 hb2442 => ?_
                    refine VL.va (op_cmp rfl rfl (congrArg some hb2442) (ltn rfl)) rfl ?_
                    refine VL.va (op_pick rfl rfl (ltn rfl)) rfl ?_
                    refine VL.va (op_move rfl (ltn rfl)) rfl ?_
                    by_cases c2443 : t2335 = 0
                    · rw [if_pos c2443] at h
                      obtain rfl : b2442 = true := hb2442.symm.trans (beq_iff_eq.2 c2443)
                      refine VL.va (op_move rfl (ltn rfl)) rfl ?_
                      refine VL.va (op_move rfl (ltn rfl)) rfl ?_
                      replace h := Option.bind_eq_some_iff.1 h
                      obtain ⟨t2444, hA2445, h⟩ := h
                      refine VL.sC (o_call_b0 FO12 (tarryref08_Same.ok k r2329 r2334 v2333 v2338 t2444 hA2445) rfl rfl (ltn rfl) (All_of (.cons (.inr (.inl ⟨_, List.mem_of_getElem? (i := 1) rfl, rfl⟩)) (.cons (.inr (.inl ⟨_, List.mem_of_getElem? (i := 0) rfl, rfl⟩)) .nil))) (by rintro _ _ _ ⟨rfl, rfl, rfl⟩; rfl)) rfl ?_
                      rintro _ _ _ ⟨rfl, rfl, rfl⟩
                      refine VL.va (op_pick rfl rfl (ltn rfl)) rfl ?_
                      refine VL.va (op_move rfl (ltn rfl)) rfl ?_
                      by_cases c2446 : t2444 = true
                      · rw [if_pos c2446] at h
                        obtain rfl := c2446
                        refine VL.va (op_move rfl (ltn rfl)) rfl ?_
                        replace h := Option.bind_eq_some_iff.1 h
                        obtain ⟨t2447, hA2448, h⟩ := h
                        refine VL.sC (o_call_b0 FO9 (stock_Right.ok k r2329 v2333 t2447 hA2448) rfl rfl (ltn rfl) (All_of (.cons (.inr (.inl ⟨_, List.mem_of_getElem? (i := 1) rfl, rfl⟩)) .nil)) (by rintro _ _ _ ⟨rfl, rfl, rfl⟩; rfl)) rfl ?_
                        rintro _ _ _ ⟨rfl, rfl, rfl⟩
                        refine VL.va (op_pick rfl rfl (ltn rfl)) rfl ?_
                        refine VL.va (op_assign rfl (ltn rfl)) rfl ?_
                        refine VL.done ?_
                        refine VN.then ?_
                        refine VC.ret ?_
                        obtain rfl := Option.some.inj h
                        exact VR.fn (rs := [.tmp 14]) [] [] [] rfl (.tmp rfl .nil) ⟨rfl, rfl, rfl⟩ trivial rfl (by decide)
                      · rw [if_neg c2446] at h
                        obtain rfl := Bool.eq_false_iff.2 c2446
                        refine VL.un rfl rfl (ltn rfl) ?_
                        refine VL.un rfl rfl (ltn rfl) ?_
                        refine VL.va (op_pick rfl rfl (ltn rfl)) rfl ?_
                        refine VL.va (op_assign rfl (ltn rfl)) rfl ?_
                        refine VL.done ?_
                        refine VN.then ?_
                        refine VC.ret ?_
                        cases h
                    · rw [if_neg c2443] at h
                      obtain rfl : b2442 = false := hb2442.symm.trans (beq_eq_false_iff_ne.2 c2443)
                      refine VL.un rfl rfl (ltn rfl) ?_
                      refine VL.un rfl rfl (ltn rfl) ?_
                      refine VL.un rfl rfl (ltn rfl) ?_
                      refine VL.va (op_pick rfl rfl (ltn rfl)) rfl ?_
                      refine VL.va (op_move rfl (ltn rfl)) rfl ?_
                      refine VL.un rfl rfl (ltn rfl) ?_
                      refine VL.un rfl rfl (ltn rfl) ?_
                      refine VL.va (op_pick rfl rfl (ltn rfl)) rfl ?_
                      refine VL.va (op_assign rfl (ltn rfl)) rfl ?_
                      refine VL.done ?_
                      refine VN.then ?_
                      refine VC.ret ?_
                      cases h
                  · rw [if_neg c2441] at h
                    obtain rfl : b2440 = false := hb2440.symm.trans (beq_eq_false_iff_ne.2 c2441)
                    refine VL.un rfl rfl (ltn rfl) ?_
                    refine VL.un rfl rfl (ltn rfl) ?_
                    refine VL.va (op_pick rfl rfl (ltn rfl)) rfl ?_
                    refine VL.va (op_move rfl (ltn rfl)) rfl ?_
                    refine VL.un rfl rfl (ltn rfl) ?_
                    refine VL.un rfl rfl (ltn rfl) ?_
                    refine VL.un rfl rfl (ltn rfl) ?_
                    refine VL.va (op_pick rfl rfl (ltn rfl)) rfl ?_
                    refine VL.va (op_move rfl (ltn rfl)) rfl ?_
                    refine VL.un rfl rfl (ltn rfl) ?_
                    refine VL.un rfl rfl (ltn rfl) ?_
                    refine VL.va (op_pick rfl rfl (ltn rfl)) rfl ?_
                    refine VL.va (op_assign rfl (ltn rfl)) rfl ?_
                    refine VL.done ?_
                    refine VN.then ?_
                    refine VC.ret ?_
                    cases h
                · rw [if_neg c2439] at h
                  obtain rfl := Bool.eq_false_iff.2 c2439
                  refine VL.un rfl rfl (ltn rfl) ?_
                  refine VL.un rfl rfl (ltn rfl) ?_
                  refine VL.va (op_pick rfl rfl (ltn rfl)) rfl ?_
                  refine VL.va (op_move rfl (ltn rfl)) rfl ?_
                  refine VL.un rfl rfl (ltn rfl) ?_
                  refine VL.un rfl rfl (ltn rfl) ?_
                  refine VL.va (op_pick rfl rfl (ltn rfl)) rfl ?_
                  refine VL.va (op_move rfl (ltn rfl)) rfl ?_
                  refine VL.un rfl rfl (ltn rfl) ?_
                  refine VL.un rfl rfl (ltn rfl) ?_
                  refine VL.un rfl rfl (ltn rfl) ?_
                  refine VL.va (op_pick rfl rfl (ltn rfl)) rfl ?_
                  refine VL.va (op_move rfl (ltn rfl)) rfl ?_
                  refine VL.un rfl rfl (ltn rfl) ?_
                  refine VL.un rfl rfl (ltn rfl) ?_
                  refine VL.va (op_pick rfl rfl (ltn rfl)) rfl ?_
                  refine VL.va (op_assign rfl (ltn rfl)) rfl ?_
                  refine VL.done ?_
                  refine VN.then ?_
                  refine VC.ret ?_
                  cases h
              · rw [if_neg c2328] at h
                obtain rfl : b2327 = true := hb2327.symm.trans (bne_iff_ne.2 c2328)
                refine VC.cond_t rfl ?_
                refine VC.seq ?_
                refine VC.region ?_
                replace h := Option.bind_eq_some_iff.1 h
                obtain ⟨t2453, hA2454, h⟩ := h
                refine VL.sC (o_call0 FO10 (tarrylaw08_alive.ok k t2453 hA2454) rfl rfl (ltn rfl) (All_of .nil)) rfl ?_
                rintro _ _ _ ⟨rfl, rfl, rfl⟩
                refine VL.va (op_move rfl (ltn rfl)) rfl ?_
                by_cases c2455 : t2453 = true
                · rw [if_pos c2455] at h
                  obtain rfl := c2455
                  refine VL.va (op_move rfl (ltn rfl)) rfl ?_
                  refine VL.va (op_len_own (m := r2289.length) 1 lenm Try.underlying23 rfl rfl (ltn rfl)) rfl ?_
                  refine VL.va (op_move rfl (ltn rfl)) rfl ?_
                  refine VL.va (op_len_own (m := r2294.length) 0 lenm Try.underlying23 rfl rfl (ltn rfl)) rfl ?_
                  refine VL.va (op_ari64 rfl rfl rfl (ltn rfl)) rfl ?_
                  refine VL.letter (((wrap64 ((r2289.length : Int) * (r2294.length : Int))) == 0)) fun b2456 hb2456 => ?_
                  refine VL.va (op_cmp rfl rfl (congrArg some hb2456) (ltn rfl)) rfl ?_
                  refine VL.va (op_pick rfl rfl (ltn rfl)) rfl ?_
                  refine VL.va (op_assign rfl (ltn rfl)) rfl ?_
                  refine VL.done ?_
                  refine VN.then ?_
                  refine VC.ret ?_
                  refine VR.then ?_
                  obtain rfl := Option.some.inj h
                  subst hb2456
                  exact VR.fn (rs := [.tmp 14]) [] [] [] rfl (.tmp rfl .nil) ⟨rfl, rfl, rfl⟩ trivial rfl (by decide)
                · rw [if_neg c2455] at h
                  obtain rfl := Bool.eq_false_iff.2 c2455
                  refine VL.un rfl rfl (ltn rfl) ?_
                  refine VL.un rfl rfl (ltn rfl) ?_
                  refine VL.un rfl rfl (ltn rfl) ?_
                  refine VL.un rfl rfl (ltn rfl) ?_
                  refine VL.un rfl rfl (ltn rfl) ?_
                  refine VL.un rfl rfl (ltn rfl) ?_
                  refine VL.va (op_pick rfl rfl (ltn rfl)) rfl ?_
                  refine VL.va (op_assign rfl (ltn rfl)) rfl ?_
                  refine VL.done ?_
                  refine VN.then ?_
                  refine VC.ret ?_
                  refine VR.then ?_
                  cases h
            · rw [if_neg c2326] at h
              obtain rfl : b2325 = true := hb2325.symm.trans (bne_iff_ne.2 c2326)
              refine VL.un rfl rfl (ltn rfl) ?_
              refine VL.un rfl rfl (ltn rfl) ?_
              refine VL.va (op_pick rfl rfl (ltn rfl)) rfl ?_
              refine VL.done ?_
              refine VN.then ?_
              refine VC.cond_t rfl ?_
              refine VC.seq ?_
              refine VC.region ?_
              replace h := Option.bind_eq_some_iff.1 h
              obtain ⟨t2461, hA2462, h⟩ := h
              refine VL.sC (o_call0 FO10 (tarrylaw08_alive.ok k t2461 hA2462) rfl rfl (ltn rfl) (All_of .nil)) rfl ?_
              rintro _ _ _ ⟨rfl, rfl, rfl⟩
              refine VL.va (op_move rfl (ltn rfl)) rfl ?_
              by_cases c2463 : t2461 = true
              · rw [if_pos c2463] at h
                obtain rfl := c2463
                refine VL.va (op_move rfl (ltn rfl)) rfl ?_
                refine VL.va (op_len_own (m := r2289.length) 1 lenm Try.underlying23 rfl rfl (ltn rfl)) rfl ?_
                refine VL.va (op_move rfl (ltn rfl)) rfl ?_
                refine VL.va (op_len_own (m := r2294.length) 0 lenm Try.underlying23 rfl rfl (ltn rfl)) rfl ?_
                refine VL.va (op_ari64 rfl rfl rfl (ltn rfl)) rfl ?_
                refine VL.letter (((wrap64 ((r2289.length : Int) * (r2294.length : Int))) == 0)) fun b2464 hb2464 => ?_
                refine VL.va (op_cmp rfl rfl (congrArg some hb2464) (ltn rfl)) rfl ?_
                refine VL.va (op_pick rfl rfl (ltn rfl)) rfl ?_
                refine VL.va (op_assign rfl (ltn rfl)) rfl ?_
                refine VL.done ?_
                refine VN.then ?_
                refine VC.ret ?_
                refine VR.then ?_
                obtain rfl := Option.some.inj h
                subst hb2464
                exact VR.fn (rs := [.tmp 14]) [] [] [] rfl (.tmp rfl .nil) ⟨rfl, rfl, rfl⟩ trivial rfl (by decide)
              · rw [if_neg c2463] at h
                obtain rfl := Bool.eq_false_iff.2 c2463
                refine VL.un rfl rfl (ltn rfl) ?_
                refine VL.un rfl rfl (ltn rfl) ?_
                refine VL.un rfl rfl (ltn rfl) ?_
                refine VL.un rfl rfl (ltn rfl) ?_
                refine VL.un rfl rfl (ltn rfl) ?_
                refine VL.un rfl rfl (ltn rfl) ?_
                refine VL.va (op_pick rfl rfl (ltn rfl)) rfl ?_
                refine VL.va (op_assign rfl (ltn rfl)) rfl ?_
                refine VL.done ?_
                refine VN.then ?_
                refine VC.ret ?_
                refine VR.then ?_
                cases h
        · rw [if_neg c118] at h; cases h
      · rw [if_neg c117] at h; cases h
    · rw [if_neg c116] at h; cases h
  · rw [if_neg c115] at h; cases h

end Go.Proofs.Ytibpoajlnloloaa.PStockApart
