/- Written by a program of this repo: what the program's functions do, each as a Lean function, shown of the loaded code; or a statement's row over that; no condition of its own. -/
import Derived.Test.YtibpoajlnloloaaPStockMovesx4
namespace Go.Proofs.Ytibpoajlnloloaa.PStockMoves
open Go Go.RowKit Go.Proofs.YtibpoajlnloloaaV
set_option linter.unusedVariables false
set_option linter.unusedSimpArgs false

set_option maxHeartbeats 4000000 in
set_option maxRecDepth 100000 in
theorem tarryref07_Name.ok (k : Nat) (a0 : ByteArray)  (r1 : Bool) (h : tarryref07_Name.f k a0 = some r1) :
    VCalls Try.prog 33 [.string a0] [] (fun v G own => v = .bool r1 ∧ G = [] ∧ own = []) := by
  refine VCalls.intro Try.func33 rfl (len rfl) fun E hC => ?_
  unfold tarryref07_Name.f at h
  refine VC.seq ?_
  refine VC.region ?_
  refine VL.va (op_assign rfl (ltn rfl)) rfl ?_
  refine VL.done ?_
  refine VN.then ?_
  refine VC.seq ?_
  refine VC.seq ?_
  refine VC.region ?_
  refine VL.va (op_assign rfl (ltn rfl)) rfl ?_
  refine VL.done ?_
  refine VN.then ?_
  refine VC.block ?_
  refine VC.loop1 (fun (i2214 : Int) => ⟨40, [(0, .string a0), (2, .bool false), (3, .int .i64 i2214)], [], [], []⟩) (fun (ml1 : Nat) (i2214 : Int) => tarryref07_Name.l1 k a0 ml1 i2214 = some r1) k 0 [] [] h ⟨rfl, ⟨rfl, rfl, rfl, trivial⟩, trivial, rfl, by decide, rfl, by decide⟩ (by intros; simp [tarryref07_Name.l1]) ?_
  clear h
  intro ml1 ihl1 i2214 h
  simp only [tarryref07_Name.l1] at h
  refine VC.seq ?_
  refine VC.seq ?_
  refine VC.region ?_
  refine VL.va (op_move rfl (ltn rfl)) rfl ?_
  refine VL.va (op_move rfl (ltn rfl)) rfl ?_
  refine VL.va (op_lens Try.underlying9 rfl (ltn rfl)) rfl ?_
  refine VL.letter (decide (i2214 < (a0.size : Int))) fun b2279 hb2279 => ?_
  refine VL.va (op_cmp rfl rfl (congrArg some hb2279) (ltn rfl)) rfl ?_
  refine VL.done ?_
  refine VN.then ?_
  by_cases c2280 : i2214 < (a0.size : Int)
  · rw [if_pos c2280] at h
    obtain rfl : b2279 = true := hb2279.symm.trans (decide_eq_true c2280)
    refine VC.cond_t rfl ?_
    refine VC.skip ?_
    refine VN.then ?_
    refine VC.seq ?_
    refine VC.block ?_
    refine VC.seq ?_
    refine VC.region ?_
    refine VL.va (op_move rfl (ltn rfl)) rfl ?_
    refine VL.va (op_move rfl (ltn rfl)) rfl ?_
    by_cases c2319 : 0 ≤ i2214
    · rw [if_pos c2319] at h
      by_cases c2320 : i2214 < (a0.size : Int)
      · rw [if_pos c2320] at h
        refine VL.va (op_indexS Try.underlying9 rfl rfl c2319 c2320 rfl (ltn rfl)) rfl ?_
        refine VL.letter (decide ((bt a0 i2214) < 97)) fun b2321 hb2321 => ?_
        refine VL.va (op_cmp rfl rfl (congrArg some hb2321) (ltn rfl)) rfl ?_
        refine VL.va (op_move rfl (ltn rfl)) rfl ?_
        by_cases c2322 : (bt a0 i2214) < 97
        · rw [if_pos c2322] at h
          obtain rfl : b2321 = true := hb2321.symm.trans (decide_eq_true c2322)
          refine VL.un rfl rfl (ltn rfl) ?_
          refine VL.un rfl rfl (ltn rfl) ?_
          refine VL.un rfl rfl (ltn rfl) ?_
          refine VL.un rfl rfl (ltn rfl) ?_
          refine VL.va (op_pick rfl rfl (ltn rfl)) rfl ?_
          refine VL.va (op_move rfl (ltn rfl)) rfl ?_
          refine VL.va (op_move rfl (ltn rfl)) rfl ?_
          refine VL.va (op_move rfl (ltn rfl)) rfl ?_
          refine VL.va (op_indexS Try.underlying9 rfl rfl c2319 c2320 rfl (ltn rfl)) rfl ?_
          refine VL.letter (decide ((bt a0 i2214) < 48)) fun b2323 hb2323 => ?_
          refine VL.va (op_cmp rfl rfl (congrArg some hb2323) (ltn rfl)) rfl ?_
          refine VL.va (op_move rfl (ltn rfl)) rfl ?_
          by_cases c2324 : (bt a0 i2214) < 48
          · rw [if_pos c2324] at h
            obtain rfl : b2323 = true := hb2323.symm.trans (decide_eq_true c2324)
            refine VL.un rfl rfl (ltn rfl) ?_
            refine VL.un rfl rfl (ltn rfl) ?_
            refine VL.un rfl rfl (ltn rfl) ?_
            refine VL.un rfl rfl (ltn rfl) ?_
            refine VL.va (op_pick rfl rfl (ltn rfl)) rfl ?_
            refine VL.va (op_pick rfl rfl (ltn rfl)) rfl ?_
            refine VL.done ?_
            refine VN.then ?_
            refine VC.cond_t rfl ?_
            refine VC.seq ?_
            refine VC.region ?_
            refine VL.va (op_assign rfl (ltn rfl)) rfl ?_
            refine VL.done ?_
            refine VN.then ?_
            refine VC.ret ?_
            refine VR.block ?_
            refine VR.then ?_
            refine VR.then ?_
            refine VR.block ?_
            refine VR.then ?_
            obtain rfl := Option.some.inj h
            exact VR.fn (rs := [.tmp 2]) [] [] [] rfl (.tmp rfl .nil) ⟨rfl, rfl, rfl⟩ trivial rfl (by decide)
          · rw [if_neg c2324] at h
            obtain rfl : b2323 = false := hb2323.symm.trans (decide_eq_false c2324)
            refine VL.va (op_move rfl (ltn rfl)) rfl ?_
            refine VL.va (op_move rfl (ltn rfl)) rfl ?_
            refine VL.va (op_indexS Try.underlying9 rfl rfl c2319 c2320 rfl (ltn rfl)) rfl ?_
            refine VL.letter (decide ((bt a0 i2214) > 57)) fun b2325 hb2325 => ?_
            refine VL.va (op_cmp rfl rfl (congrArg some hb2325) (ltn rfl)) rfl ?_
            refine VL.va (op_pick rfl rfl (ltn rfl)) rfl ?_
            refine VL.va (op_pick rfl rfl (ltn rfl)) rfl ?_
            refine VL.done ?_
            refine VN.then ?_
            by_cases c2326 : (bt a0 i2214) > 57
            · rw [if_pos c2326] at h
              obtain rfl : b2325 = true := hb2325.symm.trans (decide_eq_true c2326)
              refine VC.cond_t rfl ?_
              refine VC.seq ?_
              refine VC.region ?_
              refine VL.va (op_assign rfl (ltn rfl)) rfl ?_
              refine VL.done ?_
              refine VN.then ?_
              refine VC.ret ?_
              refine VR.block ?_
              refine VR.then ?_
              refine VR.then ?_
              refine VR.block ?_
              refine VR.then ?_
              obtain rfl := Option.some.inj h
              exact VR.fn (rs := [.tmp 2]) [] [] [] rfl (.tmp rfl .nil) ⟨rfl, rfl, rfl⟩ trivial rfl (by decide)
            · rw [if_neg c2326] at h
              obtain rfl : b2325 = false := hb2325.symm.trans (decide_eq_false c2326)
              refine VC.cond_f rfl ?_
              refine VC.skip ?_
              refine VN.block ?_
              refine VN.then ?_
              refine VC.region ?_
              refine VL.va (op_move rfl (ltn rfl)) rfl ?_
              refine VL.va (op_ari64 rfl rfl rfl (ltn rfl)) rfl ?_
              refine VL.va (op_assign rfl (ltn rfl)) rfl ?_
              refine VL.done ?_
              refine VN.again [] [] (ihl1 (wrap64 (i2214 + 1)) h) ⟨rfl, ⟨rfl, rfl, rfl, trivial⟩, trivial, rfl, by decide, rfl, by decide⟩
        · rw [if_neg c2322] at h
          obtain rfl : b2321 = false := hb2321.symm.trans (decide_eq_false c2322)
          refine VL.va (op_move rfl (ltn rfl)) rfl ?_
          refine VL.va (op_move rfl (ltn rfl)) rfl ?_
          refine VL.va (op_indexS Try.underlying9 rfl rfl c2319 c2320 rfl (ltn rfl)) rfl ?_
          refine VL.letter (decide ((bt a0 i2214) > 122)) fun b2327 hb2327 => ?_
          refine VL.va (op_cmp rfl rfl (congrArg some hb2327) (ltn rfl)) rfl ?_
          refine VL.va (op_pick rfl rfl (ltn rfl)) rfl ?_
          refine VL.va (op_move rfl (ltn rfl)) rfl ?_
          by_cases c2328 : (bt a0 i2214) > 122
          · rw [if_pos c2328] at h
            obtain rfl : b2327 = true := hb2327.symm.trans (decide_eq_true c2328)
            refine VL.va (op_move rfl (ltn rfl)) rfl ?_
            refine VL.va (op_move rfl (ltn rfl)) rfl ?_
            refine VL.va (op_indexS Try.underlying9 rfl rfl c2319 c2320 rfl (ltn rfl)) rfl ?_
            refine VL.letter (decide ((bt a0 i2214) < 48)) fun b2329 hb2329 => ?_
            refine VL.va (op_cmp rfl rfl (congrArg some hb2329) (ltn rfl)) rfl ?_
            refine VL.va (op_move rfl (ltn rfl)) rfl ?_
            by_cases c2330 : (bt a0 i2214) < 48
            · rw [if_pos c2330] at h
              obtain rfl : b2329 = true := hb2329.symm.trans (decide_eq_true c2330)
              refine VL.un rfl rfl (ltn rfl) ?_
              refine VL.un rfl rfl (ltn rfl) ?_
              refine VL.un rfl rfl (ltn rfl) ?_
              refine VL.un rfl rfl (ltn rfl) ?_
              refine VL.va (op_pick rfl rfl (ltn rfl)) rfl ?_
              refine VL.va (op_pick rfl rfl (ltn rfl)) rfl ?_
              refine VL.done ?_
              refine VN.then ?_
              refine VC.cond_t rfl ?_
              refine VC.seq ?_
              refine VC.region ?_
              refine VL.va (op_assign rfl (ltn rfl)) rfl ?_
              refine VL.done ?_
              refine VN.then ?_
              refine VC.ret ?_
              refine VR.block ?_
              refine VR.then ?_
              refine VR.then ?_
              refine VR.block ?_
              refine VR.then ?_
              obtain rfl := Option.some.inj h
              exact VR.fn (rs := [.tmp 2]) [] [] [] rfl (.tmp rfl .nil) ⟨rfl, rfl, rfl⟩ trivial rfl (by decide)
            · rw [if_neg c2330] at h
              obtain rfl : b2329 = false := hb2329.symm.trans (decide_eq_false c2330)
              refine VL.va (op_move rfl (ltn rfl)) rfl ?_
              refine VL.va (op_move rfl (ltn rfl)) rfl ?_
              refine VL.va (op_indexS Try.underlying9 rfl rfl c2319 c2320 rfl (ltn rfl)) rfl ?_
              refine VL.letter (decide ((bt a0 i2214) > 57)) fun b2331 hb2331 => ?_
              refine VL.va (op_cmp rfl rfl (congrArg some hb2331) (ltn rfl)) rfl ?_
              refine VL.va (op_pick rfl rfl (ltn rfl)) rfl ?_
              refine VL.va (op_pick rfl rfl (ltn rfl)) rfl ?_
              refine VL.done ?_
              refine VN.then ?_
              by_cases c2332 : (bt a0 i2214) > 57
              · rw [if_pos c2332] at h
                obtain rfl : b2331 = true := hb2331.symm.trans (decide_eq_true c2332)
                refine VC.cond_t rfl ?_
                refine VC.seq ?_
                refine VC.region ?_
                refine VL.va (op_assign rfl (ltn rfl)) rfl ?_
                refine VL.done ?_
                refine VN.then ?_
                refine VC.ret ?_
                refine VR.block ?_
                refine VR.then ?_
                refine VR.then ?_
                refine VR.block ?_
                refine VR.then ?_
                obtain rfl := Option.some.inj h
                exact VR.fn (rs := [.tmp 2]) [] [] [] rfl (.tmp rfl .nil) ⟨rfl, rfl, rfl⟩ trivial rfl (by decide)
              · rw [if_neg c2332] at h
                obtain rfl : b2331 = false := hb2331.symm.trans (decide_eq_false c2332)
                refine VC.cond_f rfl ?_
                refine VC.skip ?_
                refine VN.block ?_
                refine VN.then ?_
                refine VC.region ?_
                refine VL.va (op_move rfl (ltn rfl)) rfl ?_
                refine VL.va (op_ari64 rfl rfl rfl (ltn rfl)) rfl ?_
                refine VL.va (op_assign rfl (ltn rfl)) rfl ?_
                refine VL.done ?_
                refine VN.again [] [] (ihl1 (wrap64 (i2214 + 1)) h) ⟨rfl, ⟨rfl, rfl, rfl, trivial⟩, trivial, rfl, by decide, rfl, by decide⟩
          · rw [if_neg c2328] at h
            obtain rfl : b2327 = false := hb2327.symm.trans (decide_eq_false c2328)
            refine VL.un rfl rfl (ltn rfl) ?_
            refine VL.un rfl rfl (ltn rfl) ?_
            refine VL.un rfl rfl (ltn rfl) ?_
            refine VL.un rfl rfl (ltn rfl) ?_
            refine VL.un rfl rfl (ltn rfl) ?_
            refine VL.un rfl rfl (ltn rfl) ?_
            refine VL.un rfl rfl (ltn rfl) ?_
            refine VL.un rfl rfl (ltn rfl) ?_
            refine VL.un rfl rfl (ltn rfl) ?_
            refine VL.un rfl rfl (ltn rfl) ?_
            refine VL.va (op_pick rfl rfl (ltn rfl)) rfl ?_
            refine VL.done ?_
            refine VN.then ?_
            refine VC.cond_f rfl ?_
            refine VC.skip ?_
            refine VN.block ?_
            refine VN.then ?_
            refine VC.region ?_
            refine VL.va (op_move rfl (ltn rfl)) rfl ?_
            refine VL.va (op_ari64 rfl rfl rfl (ltn rfl)) rfl ?_
            refine VL.va (op_assign rfl (ltn rfl)) rfl ?_
            refine VL.done ?_
            refine VN.again [] [] (ihl1 (wrap64 (i2214 + 1)) h) ⟨rfl, ⟨rfl, rfl, rfl, trivial⟩, trivial, rfl, by decide, rfl, by decide⟩
      · rw [if_neg c2320] at h; cases h
    · rw [if_neg c2319] at h; cases h
  · rw [if_neg c2280] at h
    obtain rfl : b2279 = false := hb2279.symm.trans (decide_eq_false c2280)
    refine VC.cond_f rfl ?_
    refine VC.exit ?_
    refine VX.then ?_
    refine VX.then ?_
    refine VX.hit ?_
    refine VN.then ?_
    refine VC.seq ?_
    refine VC.region ?_
    refine VL.va (op_move rfl (ltn rfl)) rfl ?_
    refine VL.va (op_lens Try.underlying9 rfl (ltn rfl)) rfl ?_
    refine VL.letter (decide ((a0.size : Int) > 0)) fun b2336 hb2336 => ?_
    refine VL.va (op_cmp rfl rfl (congrArg some hb2336) (ltn rfl)) rfl ?_
    refine VL.va (op_move rfl (ltn rfl)) rfl ?_
    by_cases c2337 : (a0.size : Int) > 0
    · rw [if_pos c2337] at h
      obtain rfl : b2336 = true := hb2336.symm.trans (decide_eq_true c2337)
      refine VL.va (op_move rfl (ltn rfl)) rfl ?_
      refine VL.va (op_lens Try.underlying9 rfl (ltn rfl)) rfl ?_
      refine VL.letter (decide ((a0.size : Int) ≤ 16)) fun b2338 hb2338 => ?_
      refine VL.va (op_cmp rfl rfl (congrArg some hb2338) (ltn rfl)) rfl ?_
      refine VL.va (op_pick rfl rfl (ltn rfl)) rfl ?_
      refine VL.va (op_assign rfl (ltn rfl)) rfl ?_
      refine VL.done ?_
      refine VN.then ?_
      refine VC.ret ?_
      obtain rfl := Option.some.inj h
      subst hb2338
      exact VR.fn (rs := [.tmp 2]) [] [] [] rfl (.tmp rfl .nil) ⟨rfl, rfl, rfl⟩ trivial rfl (by decide)
    · rw [if_neg c2337] at h
      obtain rfl : b2336 = false := hb2336.symm.trans (decide_eq_false c2337)
      refine VL.un rfl rfl (ltn rfl) ?_
      refine VL.un rfl rfl (ltn rfl) ?_
      refine VL.un rfl rfl (ltn rfl) ?_
      refine VL.va (op_pick rfl rfl (ltn rfl)) rfl ?_
      refine VL.va (op_assign rfl (ltn rfl)) rfl ?_
      refine VL.done ?_
      refine VN.then ?_
      refine VC.ret ?_
      obtain rfl := Option.some.inj h
      exact VR.fn (rs := [.tmp 2]) [] [] [] rfl (.tmp rfl .nil) ⟨rfl, rfl, rfl⟩ trivial rfl (by decide)
set_option maxHeartbeats 4000000 in
set_option maxRecDepth 100000 in
theorem tarryref08_in.ok (a0 : Int)  (r1 : Bool) (h : tarryref08_in.f a0 = some r1) :
    VCalls Try.prog 36 [.int .i64 a0] [] (fun v G own => v = .bool r1 ∧ G = [] ∧ own = []) := by
  refine VCalls.intro Try.func36 rfl (len rfl) fun E hC => ?_
  unfold tarryref08_in.f at h
  refine VC.seq ?_
  refine VC.region ?_
  refine VL.va (op_assign rfl (ltn rfl)) rfl ?_
  refine VL.done ?_
  refine VN.then ?_
  refine VC.seq ?_
  refine VC.region ?_
  refine VL.va (op_move rfl (ltn rfl)) rfl ?_
  refine VL.letter (decide (a0 ≥ 0)) fun b2348 hb2348 => ?_
  refine VL.va (op_cmp rfl rfl (congrArg some hb2348) (ltn rfl)) rfl ?_
  refine VL.va (op_move rfl (ltn rfl)) rfl ?_
  by_cases c2349 : a0 ≥ 0
  · rw [if_pos c2349] at h
    obtain rfl : b2348 = true := hb2348.symm.trans (decide_eq_true c2349)
    refine VL.va (op_move rfl (ltn rfl)) rfl ?_
    refine VL.letter (decide (a0 ≤ 1073741824)) fun b2350 hb2350 => ?_
    refine VL.va (op_cmp rfl rfl (congrArg some hb2350) (ltn rfl)) rfl ?_
    refine VL.va (op_pick rfl rfl (ltn rfl)) rfl ?_
    refine VL.va (op_assign rfl (ltn rfl)) rfl ?_
    refine VL.done ?_
    refine VN.then ?_
    refine VC.ret ?_
    obtain rfl := Option.some.inj h
    subst hb2350
    exact VR.fn (rs := [.tmp 2]) [] [] [] rfl (.tmp rfl .nil) ⟨rfl, rfl, rfl⟩ trivial rfl (by decide)
  · rw [if_neg c2349] at h
    obtain rfl : b2348 = false := hb2348.symm.trans (decide_eq_false c2349)
    refine VL.un rfl rfl (ltn rfl) ?_
    refine VL.un rfl rfl (ltn rfl) ?_
    refine VL.va (op_pick rfl rfl (ltn rfl)) rfl ?_
    refine VL.va (op_assign rfl (ltn rfl)) rfl ?_
    refine VL.done ?_
    refine VN.then ?_
    refine VC.ret ?_
    obtain rfl := Option.some.inj h
    exact VR.fn (rs := [.tmp 2]) [] [] [] rfl (.tmp rfl .nil) ⟨rfl, rfl, rfl⟩ trivial rfl (by decide)
set_option maxHeartbeats 4000000 in
set_option maxRecDepth 100000 in
theorem tarryref07_Less.ok (k : Nat) (a0 : ByteArray) (a1 : ByteArray)  (r1 : Bool) (h : tarryref07_Less.f k a0 a1 = some r1) :
    VCalls Try.prog 35 [.string a0, .string a1] [] (fun v G own => v = .bool r1 ∧ G = [] ∧ own = []) := by
  refine VCalls.intro Try.func35 rfl (len rfl) fun E hC => ?_
  unfold tarryref07_Less.f at h
  refine VC.seq ?_
  refine VC.region ?_
  refine VL.va (op_assign rfl (ltn rfl)) rfl ?_
  refine VL.done ?_
  refine VN.then ?_
  refine VC.seq ?_
  refine VC.seq ?_
  refine VC.region ?_
  refine VL.va (op_assign rfl (ltn rfl)) rfl ?_
  refine VL.done ?_
  refine VN.then ?_
  refine VC.block ?_
  refine VC.loop1 (fun (i2544 : Int) => ⟨37, [(0, .string a0), (1, .string a1), (4, .bool false), (5, .int .i64 i2544)], [], [], []⟩) (fun (ml1 : Nat) (i2544 : Int) => tarryref07_Less.l1 k a0 a1 ml1 i2544 = some r1) k 0 [] [] h ⟨rfl, ⟨rfl, rfl, rfl, rfl, trivial⟩, trivial, rfl, by decide, rfl, by decide⟩ (by intros; simp [tarryref07_Less.l1]) ?_
  clear h
  intro ml1 ihl1 i2544 h
  simp only [tarryref07_Less.l1] at h
  refine VC.seq ?_
  refine VC.seq ?_
  refine VC.region ?_
  refine VL.va (op_move rfl (ltn rfl)) rfl ?_
  refine VL.va (op_move rfl (ltn rfl)) rfl ?_
  refine VL.va (op_lens Try.underlying9 rfl (ltn rfl)) rfl ?_
  refine VL.letter (decide (i2544 < (a0.size : Int))) fun b2583 hb2583 => ?_
  refine VL.va (op_cmp rfl rfl (congrArg some hb2583) (ltn rfl)) rfl ?_
  refine VL.va (op_move rfl (ltn rfl)) rfl ?_
  by_cases c2584 : i2544 < (a0.size : Int)
  · rw [if_pos c2584] at h
    obtain rfl : b2583 = true := hb2583.symm.trans (decide_eq_true c2584)
    refine VL.va (op_move rfl (ltn rfl)) rfl ?_
    refine VL.va (op_move rfl (ltn rfl)) rfl ?_
    refine VL.va (op_lens Try.underlying9 rfl (ltn rfl)) rfl ?_
    refine VL.letter (decide (i2544 < (a1.size : Int))) fun b2585 hb2585 => ?_
    refine VL.va (op_cmp rfl rfl (congrArg some hb2585) (ltn rfl)) rfl ?_
    refine VL.va (op_pick rfl rfl (ltn rfl)) rfl ?_
    refine VL.done ?_
    refine VN.then ?_
    by_cases c2586 : i2544 < (a1.size : Int)
    · rw [if_pos c2586] at h
      obtain rfl : b2585 = true := hb2585.symm.trans (decide_eq_true c2586)
      refine VC.cond_t rfl ?_
      refine VC.skip ?_
      refine VN.then ?_
      refine VC.seq ?_
      refine VC.block ?_
      by_cases c2593 : 0 ≤ i2544
      · rw [if_pos c2593] at h
        by_cases c2594 : i2544 < (a0.size : Int)
        · rw [if_pos c2594] at h
          by_cases c2595 : i2544 < (a1.size : Int)
          · rw [if_pos c2595] at h
            refine VC.letter (((bt a0 i2544) != (bt a1 i2544))) fun b2596 hb2596 => ?_
            refine VC.join0 (⟨37, [(0, .string a0), (1, .string a1), (4, .bool false), (5, .int .i64 i2544), (6, .int .i64 i2544), (7, .string a0), (8, .int .i64 (a0.size : Int)), (9, .bool true), (10, .bool true), (11, .int .i64 i2544), (12, .string a1), (13, .int .i64 (a1.size : Int)), (14, .bool true), (15, .bool true), (18, .string a0), (19, .int .i64 i2544), (20, .int .u8 (bt a0 i2544)), (21, .string a1), (22, .int .i64 i2544), (23, .int .u8 (bt a1 i2544)), (24, .bool b2596)], [], [], []⟩) (True) ?_ ?_
            · refine VC.draw ⟨0, [], [], [], []⟩ (by kernel_rfl) rfl (by kernel_rfl) (n := 7) (listed := LB 7 0) ?_
              refine VA.va (i := 0) (listed' := LB 7 1) rfl (op_move rfl (ltn rfl)) rfl (by kernel_rfl) (by kernel_rfl) (by kernel_rfl) (by kernel_rfl) ⟨trivial, trivial, trivial⟩ (fun _ _ _ h => h) ?_
              refine VA.va (i := 1) (listed' := LB 7 3) rfl (op_move rfl (ltn rfl)) rfl (by kernel_rfl) (by kernel_rfl) (by kernel_rfl) (by kernel_rfl) ⟨trivial, trivial, trivial⟩ (fun _ _ _ h => h) ?_
              refine VA.va (i := 2) (listed' := LB 7 7) rfl (op_indexS Try.underlying9 rfl rfl c2593 c2594 rfl (ltn rfl)) rfl (by kernel_rfl) (by kernel_rfl) (by kernel_rfl) (by kernel_rfl) ⟨trivial, trivial, trivial⟩ (fun _ _ _ h => h) ?_
              refine VA.va (i := 3) (listed' := LB 7 15) rfl (op_move rfl (ltn rfl)) rfl (by kernel_rfl) (by kernel_rfl) (by kernel_rfl) (by kernel_rfl) ⟨trivial, trivial, trivial⟩ (fun _ _ _ h => h) ?_
              refine VA.va (i := 4) (listed' := LB 7 31) rfl (op_move rfl (ltn rfl)) rfl (by kernel_rfl) (by kernel_rfl) (by kernel_rfl) (by kernel_rfl) ⟨trivial, trivial, trivial⟩ (fun _ _ _ h => h) ?_
              refine VA.va (i := 5) (listed' := LB 7 63) rfl (op_indexS Try.underlying9 rfl rfl c2593 c2595 rfl (ltn rfl)) rfl (by kernel_rfl) (by kernel_rfl) (by kernel_rfl) (by kernel_rfl) ⟨trivial, trivial, trivial⟩ (fun _ _ _ h => h) ?_
              refine VA.va (i := 6) (listed' := LB 7 127) rfl (op_cmp rfl rfl (congrArg some hb2596) (ltn rfl)) rfl (by kernel_rfl) (by kernel_rfl) (by kernel_rfl) (by kernel_rfl) ⟨trivial, trivial, trivial⟩ (fun _ _ _ h => h) ?_
              refine VA.done (by kernel_rfl) ?_
              exact VN.meet0  [] [] trivial ⟨rfl, ⟨rfl, rfl, rfl, rfl, rfl, rfl, rfl, rfl, rfl, rfl, rfl, rfl, rfl, rfl, rfl, rfl, rfl, rfl, rfl, rfl, rfl, trivial⟩, trivial, rfl, by decide, rfl, by decide⟩
            intro _
            by_cases c2597 : (bt a0 i2544) = (bt a1 i2544)
            · rw [if_pos c2597] at h
              obtain rfl : b2596 = false := hb2596.symm.trans (bne_eq_false_iff_eq.2 c2597)
              refine VC.cond_f rfl ?_
              refine VC.skip ?_
              refine VN.block ?_
              refine VN.then ?_
              refine VC.region ?_
              refine VL.va (op_move rfl (ltn rfl)) rfl ?_
              refine VL.va (op_ari64 rfl rfl rfl (ltn rfl)) rfl ?_
              refine VL.va (op_assign rfl (ltn rfl)) rfl ?_
              refine VL.done ?_
              refine VN.again [] [] (ihl1 (wrap64 (i2544 + 1)) h) ⟨rfl, ⟨rfl, rfl, rfl, rfl, trivial⟩, trivial, rfl, by decide, rfl, by decide⟩
            · rw [if_neg c2597] at h
              obtain rfl : b2596 = true := hb2596.symm.trans (bne_iff_ne.2 c2597)
              refine VC.cond_t rfl ?_
              refine VC.letter (decide ((bt a0 i2544) < (bt a1 i2544))) fun b2598 hb2598 => ?_
              refine VC.join0 (⟨37, [(0, .string a0), (1, .string a1), (4, .bool b2598), (5, .int .i64 i2544), (6, .int .i64 i2544), (7, .string a0), (8, .int .i64 (a0.size : Int)), (9, .bool true), (10, .bool true), (11, .int .i64 i2544), (12, .string a1), (13, .int .i64 (a1.size : Int)), (14, .bool true), (15, .bool true), (18, .string a0), (19, .int .i64 i2544), (20, .int .u8 (bt a0 i2544)), (21, .string a1), (22, .int .i64 i2544), (23, .int .u8 (bt a1 i2544)), (24, .bool true), (25, .string a0), (26, .int .i64 i2544), (27, .int .u8 (bt a0 i2544)), (28, .string a1), (29, .int .i64 i2544), (30, .int .u8 (bt a1 i2544)), (31, .bool b2598)], [], [], []⟩) (True) ?_ ?_
              · refine VC.draw ⟨0, [], [], [], []⟩ (by kernel_rfl) rfl (by kernel_rfl) (n := 8) (listed := LB 8 0) ?_
                refine VA.va (i := 0) (listed' := LB 8 1) rfl (op_move rfl (ltn rfl)) rfl (by kernel_rfl) (by kernel_rfl) (by kernel_rfl) (by kernel_rfl) ⟨trivial, trivial, trivial⟩ (fun _ _ _ h => h) ?_
                refine VA.va (i := 1) (listed' := LB 8 3) rfl (op_move rfl (ltn rfl)) rfl (by kernel_rfl) (by kernel_rfl) (by kernel_rfl) (by kernel_rfl) ⟨trivial, trivial, trivial⟩ (fun _ _ _ h => h) ?_
                refine VA.va (i := 2) (listed' := LB 8 7) rfl (op_indexS Try.underlying9 rfl rfl c2593 c2594 rfl (ltn rfl)) rfl (by kernel_rfl) (by kernel_rfl) (by kernel_rfl) (by kernel_rfl) ⟨trivial, trivial, trivial⟩ (fun _ _ _ h => h) ?_
                refine VA.va (i := 3) (listed' := LB 8 15) rfl (op_move rfl (ltn rfl)) rfl (by kernel_rfl) (by kernel_rfl) (by kernel_rfl) (by kernel_rfl) ⟨trivial, trivial, trivial⟩ (fun _ _ _ h => h) ?_
                refine VA.va (i := 4) (listed' := LB 8 31) rfl (op_move rfl (ltn rfl)) rfl (by kernel_rfl) (by kernel_rfl) (by kernel_rfl) (by kernel_rfl) ⟨trivial, trivial, trivial⟩ (fun _ _ _ h => h) ?_
                refine VA.va (i := 5) (listed' := LB 8 63) rfl (op_indexS Try.underlying9 rfl rfl c2593 c2595 rfl (ltn rfl)) rfl (by kernel_rfl) (by kernel_rfl) (by kernel_rfl) (by kernel_rfl) ⟨trivial, trivial, trivial⟩ (fun _ _ _ h => h) ?_
                refine VA.va (i := 6) (listed' := LB 8 127) rfl (op_cmp rfl rfl (congrArg some hb2598) (ltn rfl)) rfl (by kernel_rfl) (by kernel_rfl) (by kernel_rfl) (by kernel_rfl) ⟨trivial, trivial, trivial⟩ (fun _ _ _ h => h) ?_
                refine VA.va (i := 7) (listed' := LB 8 255) rfl (op_assign rfl (ltn rfl)) rfl (by kernel_rfl) (by kernel_rfl) (by kernel_rfl) (by kernel_rfl) ⟨trivial, trivial, trivial⟩ (fun _ _ _ h => h) ?_
                refine VA.done (by kernel_rfl) ?_
                exact VN.meet0  [] [] trivial ⟨rfl, ⟨rfl, rfl, rfl, rfl, rfl, rfl, rfl, rfl, rfl, rfl, rfl, rfl, rfl, rfl, rfl, rfl, rfl, rfl, rfl, rfl, rfl, rfl, rfl, rfl, rfl, rfl, rfl, rfl, trivial⟩, trivial, rfl, by decide, rfl, by decide⟩
              intro _
              refine VC.ret ?_
              refine VR.block ?_
              refine VR.then ?_
              refine VR.then ?_
              refine VR.block ?_
              refine VR.then ?_
              obtain rfl := Option.some.inj h
              subst hb2598
              exact VR.fn (rs := [.tmp 4]) [] [] [] rfl (.tmp rfl .nil) ⟨rfl, rfl, rfl⟩ trivial rfl (by decide)
          · rw [if_neg c2595] at h; cases h
        · rw [if_neg c2594] at h; cases h
      · rw [if_neg c2593] at h; cases h
    · rw [if_neg c2586] at h
      obtain rfl : b2585 = false := hb2585.symm.trans (decide_eq_false c2586)
      refine VC.cond_f rfl ?_
      refine VC.exit ?_
      refine VX.then ?_
      refine VX.then ?_
      refine VX.hit ?_
      refine VN.then ?_
      refine VC.seq ?_
      refine VC.region ?_
      refine VL.va (op_move rfl (ltn rfl)) rfl ?_
      refine VL.va (op_lens Try.underlying9 rfl (ltn rfl)) rfl ?_
      refine VL.va (op_move rfl (ltn rfl)) rfl ?_
      refine VL.va (op_lens Try.underlying9 rfl (ltn rfl)) rfl ?_
      refine VL.letter (decide ((a0.size : Int) < (a1.size : Int))) fun b2599 hb2599 => ?_
      refine VL.va (op_cmp rfl rfl (congrArg some hb2599) (ltn rfl)) rfl ?_
      refine VL.va (op_assign rfl (ltn rfl)) rfl ?_
      refine VL.done ?_
      refine VN.then ?_
      refine VC.ret ?_
      obtain rfl := Option.some.inj h
      subst hb2599
      exact VR.fn (rs := [.tmp 4]) [] [] [] rfl (.tmp rfl .nil) ⟨rfl, rfl, rfl⟩ trivial rfl (by decide)
  · rw [if_neg c2584] at h
    obtain rfl : b2583 = false := hb2583.symm.trans (decide_eq_false c2584)
    refine VL.un rfl rfl (ltn rfl) ?_
    refine VL.un rfl rfl (ltn rfl) ?_
    refine VL.un rfl rfl (ltn rfl) ?_
    refine VL.un rfl rfl (ltn rfl) ?_
    refine VL.va (op_pick rfl rfl (ltn rfl)) rfl ?_
    refine VL.done ?_
    refine VN.then ?_
    refine VC.cond_f rfl ?_
    refine VC.exit ?_
    refine VX.then ?_
    refine VX.then ?_
    refine VX.hit ?_
    refine VN.then ?_
    refine VC.seq ?_
    refine VC.region ?_
    refine VL.va (op_move rfl (ltn rfl)) rfl ?_
    refine VL.va (op_lens Try.underlying9 rfl (ltn rfl)) rfl ?_
    refine VL.va (op_move rfl (ltn rfl)) rfl ?_
    refine VL.va (op_lens Try.underlying9 rfl (ltn rfl)) rfl ?_
    refine VL.letter (decide ((a0.size : Int) < (a1.size : Int))) fun b2600 hb2600 => ?_
    refine VL.va (op_cmp rfl rfl (congrArg some hb2600) (ltn rfl)) rfl ?_
    refine VL.va (op_assign rfl (ltn rfl)) rfl ?_
    refine VL.done ?_
    refine VN.then ?_
    refine VC.ret ?_
    obtain rfl := Option.some.inj h
    subst hb2600
    exact VR.fn (rs := [.tmp 4]) [] [] [] rfl (.tmp rfl .nil) ⟨rfl, rfl, rfl⟩ trivial rfl (by decide)

end Go.Proofs.Ytibpoajlnloloaa.PStockMoves
