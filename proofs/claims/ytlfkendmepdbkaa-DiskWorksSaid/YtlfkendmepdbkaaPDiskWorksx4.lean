/- Written by a program of this repo: what the program's functions do, each as a Lean function, shown of the loaded code; or a statement's row over that; no condition of its own. -/
import Derived.Test.YtlfkendmepdbkaaPDiskWorksx3
namespace Go.Proofs.Ytlfkendmepdbkaa.PDiskWorks
open Go Go.RowKit Go.Proofs.YtlfkendmepdbkaaV
set_option linter.unusedVariables false
set_option linter.unusedSimpArgs false

set_option maxHeartbeats 4000000 in
set_option maxRecDepth 100000 in
theorem tarryref03_Right.ok (k : Nat) (l0_0 : List ByteArray) (l0_1 : List S32) (v0_0 : Value) (v0_1 : Value) (r1 : Bool) (h : tarryref03_Right.f k l0_0 l0_1 = some r1) :
    VCalls Try.prog 15 [.agg #[v0_0, v0_1]] [.row v0_0 1 (l0_0.map enc_str), .row v0_1 2 (l0_1.map enc32)] (fun v G own => v = .bool r1 ∧ G = [] ∧ own = []) := by
  refine VCalls.intro Try.func15 rfl (len rfl) fun E hC hW hD hU => ?_
  unfold tarryref03_Right.f at h
  refine VC.seq ?_
  refine VC.region ?_
  refine VL.sG (o_box rfl (.agg (.f 0 rfl (.f 1 rfl .nil))) (ltn rfl)) rfl ?_
  intro g1753
  refine VL.va (op_assign rfl (ltn rfl)) rfl ?_
  refine VL.done ?_
  refine VN.then ?_
  refine VC.seq ?_
  refine VC.seq ?_
  refine VC.region ?_
  refine VL.va (op_fieldAddr FI25_0 rfl (add_at _ _ _) (ltn rfl)) rfl ?_
  refine VL.va (op_load 0 1 rfl rfl TI22 rfl (by decide) (ltn rfl)) rfl ?_
  refine VL.va (op_len (m := l0_0.length) 0 lenm Try.underlying22 rfl rfl (ltn rfl)) rfl ?_
  refine VL.va (op_move rfl (ltn rfl)) rfl ?_
  refine VL.done ?_
  refine VN.then ?_
  refine VC.block ?_
  refine VC.loop1 (fun (i1811 : Int) => ⟨59, [(1, .pointer (some ⟨g1753, 0, none⟩)), (2, .bool false), (8, v0_0), (9, .int .i64 (l0_0.length : Int)), (10, .int .i64 i1811)], [.row v0_0 1 (l0_0.map enc_str), .row v0_1 2 (l0_1.map enc32)], [(g1753, 25, [v0_0, v0_1])], []⟩) (fun (ml1 : Nat) (i1811 : Int) => tarryref03_Right.l1 k l0_0 l0_1 ml1 i1811 = some r1) k 0 [0] [] h ⟨rfl, ⟨rfl, rfl, rfl, rfl, rfl, trivial⟩, ⟨⟨0, rfl⟩, ⟨1, rfl⟩, trivial⟩, rfl, by decide, rfl, by decide⟩ (by intros; simp [tarryref03_Right.l1]) ?_
  clear h
  intro ml1 ihl1 i1811 h
  simp only [tarryref03_Right.l1] at h
  refine VC.seq ?_
  refine VC.region ?_
  refine VL.letter (decide (i1811 < (l0_0.length : Int))) fun b1827 hb1827 => ?_
  refine VL.va (op_cmp rfl rfl (congrArg some hb1827) (ltn rfl)) rfl ?_
  refine VL.done ?_
  refine VN.then ?_
  refine VC.seq ?_
  by_cases c2057 : i1811 < (l0_0.length : Int)
  · rw [if_pos c2057] at h
    obtain rfl : b1827 = true := hb1827.symm.trans (decide_eq_true c2057)
    refine VC.cond_t rfl ?_
    refine VC.skip ?_
    refine VN.then ?_
    refine VC.seq ?_
    refine VC.block ?_
    refine VC.seq ?_
    refine VC.region ?_
    by_cases c2064 : 0 ≤ i1811
    · rw [if_pos c2064] at h
      replace h := Option.bind_eq_some_iff.1 h
      obtain ⟨x2065, hx2065, h⟩ := h
      refine VL.open (m := l0_0.length) 0 lenm rfl (pos_get hx2065) ?_
      rintro ad2066 n2067 rfl
      refine VL.va (op_indexAddr Try.underlying22 TI9 rfl rfl c2064 (lt_get c2064 hx2065) rfl (ltn rfl)) rfl ?_
      refine VL.va (op_load_row (sz := 1) (o := 0) 0 i1811.toNat 1 rfl rfl (get_map hx2065) TI9 rfl (by decide) (ltn rfl)) rfl ?_
      refine VL.va (op_assign rfl (ltn rfl)) rfl ?_
      refine VL.done ?_
      refine VN.then ?_
      refine VC.seq ?_
      refine VC.region ?_
      refine VL.va (op_move rfl (ltn rfl)) rfl ?_
      refine VL.va (op_lens Try.underlying9 rfl (ltn rfl)) rfl ?_
      refine VL.letter (((x2065.size : Int) != 64)) fun b2068 hb2068 => ?_
      refine VL.va (op_cmp rfl rfl (congrArg some hb2068) (ltn rfl)) rfl ?_
      refine VL.done ?_
      refine VN.then ?_
      by_cases c2069 : (x2065.size : Int) = 64
      · rw [if_pos c2069] at h
        obtain rfl : b2068 = false := hb2068.symm.trans (bne_eq_false_iff_eq.2 c2069)
        refine VC.cond_f rfl ?_
        refine VC.skip ?_
        refine VN.block ?_
        refine VN.then ?_
        refine VC.region ?_
        refine VL.va (op_ari64 rfl rfl rfl (ltn rfl)) rfl ?_
        refine VL.va (op_move rfl (ltn rfl)) rfl ?_
        refine VL.done ?_
        refine VN.again [0] [] (ihl1 (wrap64 (i1811 + 1)) h) ⟨rfl, ⟨rfl, rfl, rfl, rfl, rfl, trivial⟩, ⟨⟨0, rfl⟩, ⟨1, rfl⟩, trivial⟩, rfl, by decide, rfl, by decide⟩
      · rw [if_neg c2069] at h
        obtain rfl : b2068 = true := hb2068.symm.trans (bne_iff_ne.2 c2069)
        refine VC.cond_t rfl ?_
        refine VC.seq ?_
        refine VC.region ?_
        refine VL.va (op_assign rfl (ltn rfl)) rfl ?_
        refine VL.done ?_
        refine VN.then ?_
        refine VC.ret ?_
        refine VR.block ?_
        refine VR.then ?_
        refine VR.then ?_
        refine VR.block ?_
        refine VR.then ?_
        obtain rfl := Option.some.inj h
        exact VR.fn (rs := [.tmp 2]) [] [] [] rfl (.tmp rfl .nil) ⟨rfl, rfl, rfl⟩ trivial rfl (by decide)
    · rw [if_neg c2064] at h; cases h
  · rw [if_neg c2057] at h
    obtain rfl : b1827 = false := hb1827.symm.trans (decide_eq_false c2057)
    refine VC.cond_f rfl ?_
    refine VC.exit ?_
    refine VX.then ?_
    refine VX.then ?_
    refine VX.hit ?_
    refine VN.then ?_
    refine VC.seq ?_
    refine VC.seq ?_
    refine VC.region ?_
    refine VL.va (op_fieldAddr FI25_1 rfl (add_at _ _ _) (ltn rfl)) rfl ?_
    refine VL.va (op_load 0 1 rfl rfl TI23 rfl (by decide) (ltn rfl)) rfl ?_
    refine VL.va (op_len (m := l0_1.length) 1 lenm Try.underlying23 rfl rfl (ltn rfl)) rfl ?_
    refine VL.va (op_move rfl (ltn rfl)) rfl ?_
    refine VL.done ?_
    refine VN.then ?_
    refine VC.block ?_
    refine VC.loop1 (fun (i2207 : Int) => ⟨59, [(1, .pointer (some ⟨g1753, 0, none⟩)), (2, .bool false), (19, v0_1), (20, .int .i64 (l0_1.length : Int)), (21, .int .i64 i2207)], [.row v0_1 2 (l0_1.map enc32), .row v0_0 1 (l0_0.map enc_str)], [(g1753, 25, [v0_0, v0_1])], []⟩) (fun (ml5 : Nat) (i2207 : Int) => tarryref03_Right.l5 k l0_0 l0_1 ml5 i2207 = some r1) k 0 [0] [] h ⟨rfl, ⟨rfl, rfl, rfl, rfl, rfl, trivial⟩, ⟨⟨1, rfl⟩, ⟨0, rfl⟩, trivial⟩, rfl, by decide, rfl, by decide⟩ (by intros; simp [tarryref03_Right.l5]) ?_
    clear h
    intro ml5 ihl5 i2207 h
    simp only [tarryref03_Right.l5] at h
    refine VC.seq ?_
    refine VC.region ?_
    refine VL.letter (decide (i2207 < (l0_1.length : Int))) fun b2243 hb2243 => ?_
    refine VL.va (op_cmp rfl rfl (congrArg some hb2243) (ltn rfl)) rfl ?_
    refine VL.done ?_
    refine VN.then ?_
    refine VC.seq ?_
    by_cases c2255 : i2207 < (l0_1.length : Int)
    · rw [if_pos c2255] at h
      obtain rfl : b2243 = true := hb2243.symm.trans (decide_eq_true c2255)
      refine VC.cond_t rfl ?_
      refine VC.skip ?_
      refine VN.then ?_
      refine VC.seq ?_
      refine VC.block ?_
      refine VC.seq ?_
      refine VC.region ?_
      by_cases c2272 : 0 ≤ i2207
      · rw [if_pos c2272] at h
        replace h := Option.bind_eq_some_iff.1 h
        obtain ⟨x2273, hx2273, h⟩ := h
        refine VL.open (m := l0_1.length) 0 lenm rfl (pos_get hx2273) ?_
        rintro ad2274 n2275 rfl
        refine VL.va (op_indexAddr Try.underlying23 TI33 rfl rfl c2272 (lt_get c2272 hx2273) rfl (ltn rfl)) rfl ?_
        refine VL.va (op_load_row (sz := 2) (o := 0) 0 i2207.toNat 2 rfl rfl (get_map hx2273) TI33 rfl (fun h => absurd h (by decide)) (ltn rfl)) rfl ?_
        refine VL.sG (o_alloc Z33 ZL33 (ltn rfl)) rfl ?_
        intro g2276
        refine VL.step1 (o_store 0 2 rfl rfl rfl TI33 (.agg (.of rfl)) rfl (len rfl)) rfl ?_
        refine VL.done ?_
        refine VN.then ?_
        refine VC.seq ?_
        refine VC.region ?_
        refine VL.va (op_fieldAddr FI33_0 rfl (add_at _ _ _) (ltn rfl)) rfl ?_
        refine VL.va (op_load 0 1 rfl rfl TI3 rfl (by decide) (ltn rfl)) rfl ?_
        refine VL.letter (decide (x2273.f0 < 0)) fun b2282 hb2282 => ?_
        refine VL.va (op_cmp rfl rfl (congrArg some hb2282) (ltn rfl)) rfl ?_
        refine VL.va (op_move rfl (ltn rfl)) rfl ?_
        by_cases c2283 : x2273.f0 < 0
        · rw [if_pos c2283] at h
          obtain rfl : b2282 = true := hb2282.symm.trans (decide_eq_true c2283)
          refine VL.un rfl rfl (ltn rfl) ?_
          refine VL.un rfl rfl (ltn rfl) ?_
          refine VL.un rfl rfl (ltn rfl) ?_
          refine VL.un rfl rfl (ltn rfl) ?_
          refine VL.un rfl rfl (ltn rfl) ?_
          refine VL.un rfl rfl (ltn rfl) ?_
          refine VL.va (op_pick rfl rfl (ltn rfl)) rfl ?_
          refine VL.va (op_move rfl (ltn rfl)) rfl ?_
          refine VL.un rfl rfl (ltn rfl) ?_
          refine VL.un rfl rfl (ltn rfl) ?_
          refine VL.un rfl rfl (ltn rfl) ?_
          refine VL.un rfl rfl (ltn rfl) ?_
          refine VL.va (op_pick rfl rfl (ltn rfl)) rfl ?_
          refine VL.done ?_
          refine VN.then ?_
          refine VC.cond_t rfl ?_
          refine VC.seq ?_
          refine VC.region ?_
          refine VL.va (op_assign rfl (ltn rfl)) rfl ?_
          refine VL.done ?_
          refine VN.then ?_
          refine VC.ret ?_
          refine VR.block ?_
          refine VR.then ?_
          refine VR.then ?_
          refine VR.block ?_
          refine VR.then ?_
          obtain rfl := Option.some.inj h
          exact VR.fn (rs := [.tmp 2]) [] [] [] rfl (.tmp rfl .nil) ⟨rfl, rfl, rfl⟩ trivial rfl (by decide)
        · rw [if_neg c2283] at h
          obtain rfl : b2282 = false := hb2282.symm.trans (decide_eq_false c2283)
          refine VL.va (op_fieldAddr FI33_0 rfl (add_at _ _ _) (ltn rfl)) rfl ?_
          refine VL.va (op_load 0 1 rfl rfl TI3 rfl (by decide) (ltn rfl)) rfl ?_
          refine VL.va (op_fieldAddr FI25_0 rfl (add_at _ _ _) (ltn rfl)) rfl ?_
          refine VL.va (op_load 1 1 rfl rfl TI22 rfl (by decide) (ltn rfl)) rfl ?_
          refine VL.va (op_len (m := l0_0.length) 1 lenm Try.underlying22 rfl rfl (ltn rfl)) rfl ?_
          refine VL.letter (decide (x2273.f0 ≥ (l0_0.length : Int))) fun b2284 hb2284 => ?_
          refine VL.va (op_cmp rfl rfl (congrArg some hb2284) (ltn rfl)) rfl ?_
          refine VL.va (op_pick rfl rfl (ltn rfl)) rfl ?_
          refine VL.va (op_move rfl (ltn rfl)) rfl ?_
          by_cases c2285 : x2273.f0 ≥ (l0_0.length : Int)
          · rw [if_pos c2285] at h
            obtain rfl : b2284 = true := hb2284.symm.trans (decide_eq_true c2285)
            refine VL.un rfl rfl (ltn rfl) ?_
            refine VL.un rfl rfl (ltn rfl) ?_
            refine VL.un rfl rfl (ltn rfl) ?_
            refine VL.un rfl rfl (ltn rfl) ?_
            refine VL.va (op_pick rfl rfl (ltn rfl)) rfl ?_
            refine VL.done ?_
            refine VN.then ?_
            refine VC.cond_t rfl ?_
            refine VC.seq ?_
            refine VC.region ?_
            refine VL.va (op_assign rfl (ltn rfl)) rfl ?_
            refine VL.done ?_
            refine VN.then ?_
            refine VC.ret ?_
            refine VR.block ?_
            refine VR.then ?_
            refine VR.then ?_
            refine VR.block ?_
            refine VR.then ?_
            obtain rfl := Option.some.inj h
            exact VR.fn (rs := [.tmp 2]) [] [] [] rfl (.tmp rfl .nil) ⟨rfl, rfl, rfl⟩ trivial rfl (by decide)
          · rw [if_neg c2285] at h
            obtain rfl : b2284 = false := hb2284.symm.trans (decide_eq_false c2285)
            refine VL.va (op_fieldAddr FI33_1 rfl (add_at _ _ _) (ltn rfl)) rfl ?_
            refine VL.va (op_load 0 1 rfl rfl TI9 rfl (by decide) (ltn rfl)) rfl ?_
            refine VL.va (op_lens Try.underlying9 rfl (ltn rfl)) rfl ?_
            refine VL.letter (((x2273.f1.size : Int) != 64)) fun b2286 hb2286 => ?_
            refine VL.va (op_cmp rfl rfl (congrArg some hb2286) (ltn rfl)) rfl ?_
            refine VL.va (op_pick rfl rfl (ltn rfl)) rfl ?_
            refine VL.done ?_
            refine VN.then ?_
            by_cases c2287 : (x2273.f1.size : Int) = 64
            · rw [if_pos c2287] at h
              obtain rfl : b2286 = false := hb2286.symm.trans (bne_eq_false_iff_eq.2 c2287)
              refine VC.cond_f rfl ?_
              refine VC.skip ?_
              refine VN.block ?_
              refine VN.then ?_
              refine VC.region ?_
              refine VL.va (op_ari64 rfl rfl rfl (ltn rfl)) rfl ?_
              refine VL.va (op_move rfl (ltn rfl)) rfl ?_
              refine VL.done ?_
              refine VN.again [1] [] (ihl5 (wrap64 (i2207 + 1)) h) ⟨rfl, ⟨rfl, rfl, rfl, rfl, rfl, trivial⟩, ⟨⟨0, rfl⟩, ⟨1, rfl⟩, trivial⟩, rfl, by decide, rfl, by decide⟩
            · rw [if_neg c2287] at h
              obtain rfl : b2286 = true := hb2286.symm.trans (bne_iff_ne.2 c2287)
              refine VC.cond_t rfl ?_
              refine VC.seq ?_
              refine VC.region ?_
              refine VL.va (op_assign rfl (ltn rfl)) rfl ?_
              refine VL.done ?_
              refine VN.then ?_
              refine VC.ret ?_
              refine VR.block ?_
              refine VR.then ?_
              refine VR.then ?_
              refine VR.block ?_
              refine VR.then ?_
              obtain rfl := Option.some.inj h
              exact VR.fn (rs := [.tmp 2]) [] [] [] rfl (.tmp rfl .nil) ⟨rfl, rfl, rfl⟩ trivial rfl (by decide)
      · rw [if_neg c2272] at h; cases h
    · rw [if_neg c2255] at h
      obtain rfl : b2243 = false := hb2243.symm.trans (decide_eq_false c2255)
      refine VC.cond_f rfl ?_
      refine VC.exit ?_
      refine VX.then ?_
      refine VX.then ?_
      refine VX.hit ?_
      refine VN.then ?_
      refine VC.seq ?_
      refine VC.region ?_
      refine VL.va (op_fieldAddr FI25_0 rfl (add_at _ _ _) (ltn rfl)) rfl ?_
      refine VL.va (op_load 0 1 rfl rfl TI22 rfl (by decide) (ltn rfl)) rfl ?_
      refine VL.va (op_len (m := l0_0.length) 1 lenm Try.underlying22 rfl rfl (ltn rfl)) rfl ?_
      refine VL.letter (decide ((l0_0.length : Int) > 0)) fun b2293 hb2293 => ?_
      refine VL.va (op_cmp rfl rfl (congrArg some hb2293) (ltn rfl)) rfl ?_
      refine VL.va (op_move rfl (ltn rfl)) rfl ?_
      by_cases c2294 : (l0_0.length : Int) > 0
      · rw [if_pos c2294] at h
        obtain rfl : b2293 = true := hb2293.symm.trans (decide_eq_true c2294)
        refine VL.va (op_fieldAddr FI25_0 rfl (add_at _ _ _) (ltn rfl)) rfl ?_
        refine VL.va (op_load 0 1 rfl rfl TI22 rfl (by decide) (ltn rfl)) rfl ?_
        refine VL.va (op_len (m := l0_0.length) 1 lenm Try.underlying22 rfl rfl (ltn rfl)) rfl ?_
        refine VL.letter (decide ((l0_0.length : Int) ≤ 512)) fun b2295 hb2295 => ?_
        refine VL.va (op_cmp rfl rfl (congrArg some hb2295) (ltn rfl)) rfl ?_
        refine VL.va (op_pick rfl rfl (ltn rfl)) rfl ?_
        refine VL.va (op_move rfl (ltn rfl)) rfl ?_
        by_cases c2296 : (l0_0.length : Int) ≤ 512
        · rw [if_pos c2296] at h
          obtain rfl : b2295 = true := hb2295.symm.trans (decide_eq_true c2296)
          refine VL.va (op_fieldAddr FI25_1 rfl (add_at _ _ _) (ltn rfl)) rfl ?_
          refine VL.va (op_load 0 1 rfl rfl TI23 rfl (by decide) (ltn rfl)) rfl ?_
          refine VL.va (op_len (m := l0_1.length) 0 lenm Try.underlying23 rfl rfl (ltn rfl)) rfl ?_
          refine VL.letter (decide ((l0_1.length : Int) ≤ 64)) fun b2297 hb2297 => ?_
          refine VL.va (op_cmp rfl rfl (congrArg some hb2297) (ltn rfl)) rfl ?_
          refine VL.va (op_pick rfl rfl (ltn rfl)) rfl ?_
          refine VL.va (op_assign rfl (ltn rfl)) rfl ?_
          refine VL.done ?_
          refine VN.then ?_
          refine VC.ret ?_
          obtain rfl := Option.some.inj h
          subst hb2297
          exact VR.fn (rs := [.tmp 2]) [] [] [] rfl (.tmp rfl .nil) ⟨rfl, rfl, rfl⟩ trivial rfl (by decide)
        · rw [if_neg c2296] at h
          obtain rfl : b2295 = false := hb2295.symm.trans (decide_eq_false c2296)
          refine VL.un rfl rfl (ltn rfl) ?_
          refine VL.un rfl rfl (ltn rfl) ?_
          refine VL.un rfl rfl (ltn rfl) ?_
          refine VL.un rfl rfl (ltn rfl) ?_
          refine VL.va (op_pick rfl rfl (ltn rfl)) rfl ?_
          refine VL.va (op_assign rfl (ltn rfl)) rfl ?_
          refine VL.done ?_
          refine VN.then ?_
          refine VC.ret ?_
          obtain rfl := Option.some.inj h
          exact VR.fn (rs := [.tmp 2]) [] [] [] rfl (.tmp rfl .nil) ⟨rfl, rfl, rfl⟩ trivial rfl (by decide)
      · rw [if_neg c2294] at h
        obtain rfl : b2293 = false := hb2293.symm.trans (decide_eq_false c2294)
        refine VL.un rfl rfl (ltn rfl) ?_
        refine VL.un rfl rfl (ltn rfl) ?_
        refine VL.un rfl rfl (ltn rfl) ?_
        refine VL.un rfl rfl (ltn rfl) ?_
        refine VL.va (op_pick rfl rfl (ltn rfl)) rfl ?_
        refine VL.va (op_move rfl (ltn rfl)) rfl ?_
        refine VL.un rfl rfl (ltn rfl) ?_
        refine VL.un rfl rfl (ltn rfl) ?_
        refine VL.un rfl rfl (ltn rfl) ?_
        refine VL.un rfl rfl (ltn rfl) ?_
        refine VL.va (op_pick rfl rfl (ltn rfl)) rfl ?_
        refine VL.va (op_assign rfl (ltn rfl)) rfl ?_
        refine VL.done ?_
        refine VN.then ?_
        refine VC.ret ?_
        obtain rfl := Option.some.inj h
        exact VR.fn (rs := [.tmp 2]) [] [] [] rfl (.tmp rfl .nil) ⟨rfl, rfl, rfl⟩ trivial rfl (by decide)
set_option maxHeartbeats 4000000 in
set_option maxRecDepth 100000 in
theorem tarrylaw03_alive.ok (k : Nat)   (r1 : Bool) (h : tarrylaw03_alive.f k = some r1) :
    VCalls Try.prog 8 [] [] (fun v G own => v = .bool r1 ∧ G = [] ∧ own = []) := by
  refine VCalls.intro Try.func8 rfl (len rfl) fun E hC hW hD hU => ?_
  unfold tarrylaw03_alive.f at h
  refine VC.seq ?_
  refine VC.region ?_
  refine VL.va (op_assign rfl (ltn rfl)) rfl ?_
  refine VL.done ?_
  refine VN.then ?_
  refine VC.seq ?_
  refine VC.region ?_
  replace h := Option.bind_eq_some_iff.1 h
  obtain ⟨⟨r2361, r2362, t2363⟩, hA2364, h⟩ := h
  dsimp only at h
  refine VL.sC (o_call0 FO9 (disk_New.ok 2 r2361 r2362 t2363 hA2364) rfl rfl (ltn rfl) (All_of .nil)) rfl ?_
  rintro _ _ _ ⟨v2366, v2368, rfl, rfl, rfl⟩
  refine VL.va (op_move rfl (ltn rfl)) rfl ?_
  refine VL.va (op_extract rfl rfl (ltn rfl)) rfl ?_
  refine VL.va (op_extract rfl rfl (ltn rfl)) rfl ?_
  refine VL.sG (o_alloc Z25 ZL25 (ltn rfl)) rfl ?_
  intro g2369
  refine VL.step1 (o_store 0 2 rfl rfl rfl TI25 (.agg (.r 0 rfl (.r 1 rfl .nil))) rfl (len rfl)) rfl ?_
  refine VL.va (op_assign rfl (ltn rfl)) rfl ?_
  refine VL.done ?_
  refine VN.then ?_
  replace h := Option.bind_eq_some_iff.1 h
  obtain ⟨r2370, hA2371, h⟩ := h
  replace h := Option.bind_eq_some_iff.1 h
  obtain ⟨⟨r2372, r2373, t2374⟩, hA2375, h⟩ := h
  dsimp only at h
  refine VC.freezeRow' 0 rfl ?_
  refine VC.freezeRow' 0 rfl ?_
  refine VC.join2 (fun (v2377 : Value) (v2379 : Value) => ⟨51, [(0, .bool false), (1, .pointer (some ⟨g2369, 0, none⟩)), (2, .int .i64 t2363), (3, .int .i64 t2374)], [.row v2377 1 (r2372.map enc_str), .row v2379 2 (r2373.map enc32)], [(g2369, 25, [v2377, v2379])], []⟩) (fun (v2377 : Value) (v2379 : Value) => True) ?_ ?_
  · refine VC.drawB ⟨0, [], [], [], []⟩ [6] ⟨0, [], [], [(g2369, 25, [v2366, v2368])], []⟩ (by kernel_rfl) rfl (by kernel_rfl) (n := 8) (listed := LB 8 0) ?_
    refine VB.vb (i := 0) (listed' := LB 8 1) rfl (op_load 0 2 rfl rfl TI25 rfl (fun h => absurd h (by decide)) (ltn rfl)) rfl (by kernel_rfl) (by kernel_rfl) (by kernel_rfl) (by kernel_rfl) (by kernel_rfl) (by kernel_rfl) (PartP.on ⟨trivial, trivial, trivial⟩ ⟨trivial, ⟨⟨0, rfl⟩, trivial⟩, trivial⟩) (fun _ _ _ h => h) ?_
    refine VB.oneC (i := 1) (listed' := LB 8 3) (by kernel_rfl) rfl (o_call0 FO14 (strings_Repeat.ok (⟨#[97]⟩ : ByteArray) 64 r2370 hA2371) rfl rfl (ltn rfl) (All_of .nil)) rfl (by kernel_rfl) ?_
    rintro _ _ _ ⟨rfl, rfl, rfl⟩
    refine ⟨(PartP.on ⟨trivial, trivial, trivial⟩ ⟨trivial, ⟨⟨0, rfl⟩, trivial⟩, trivial⟩), ?_⟩
    refine VB.oneC (i := 2) (listed' := LB 8 7) (by kernel_rfl) rfl (o_call0 FO10 (disk_Put.ok k r2361 r2362 1 r2370 v2366 v2368 r2372 r2373 t2374 hA2375) rfl rfl (ltn rfl) (All_of (.cons (List.mem_of_getElem? (i := 1) rfl) (.cons (List.mem_of_getElem? (i := 0) rfl) .nil)))) rfl (by kernel_rfl) ?_
    rintro _ _ _ ⟨v2377, v2379, rfl, rfl, rfl⟩
    refine ⟨(PartP.on ⟨trivial, trivial, trivial⟩ ⟨trivial, ⟨⟨0, rfl⟩, trivial⟩, trivial⟩), ?_⟩
    refine VB.more ⟨0, [], [.row v2377 1 (r2372.map enc_str), .row v2379 2 (r2373.map enc32)], [], []⟩ ⟨trivial, trivial, trivial⟩ ?_
    refine VB.va (i := 3) (listed' := LB 8 15) rfl (op_move rfl (ltn rfl)) rfl (by kernel_rfl) (by kernel_rfl) (by kernel_rfl) (by kernel_rfl) (by decide) (PartP.on ⟨⟨⟨0, rfl⟩, ⟨1, rfl⟩, trivial⟩, trivial, trivial⟩ ⟨trivial, ⟨⟨0, rfl⟩, trivial⟩, trivial⟩) (fun _ _ _ h => h) ?_
    refine VB.va (i := 4) (listed' := LB 8 31) rfl (op_extract rfl rfl (ltn rfl)) rfl (by kernel_rfl) (by kernel_rfl) (by kernel_rfl) (by kernel_rfl) (by decide) (PartP.on ⟨⟨⟨0, rfl⟩, ⟨1, rfl⟩, trivial⟩, trivial, trivial⟩ ⟨trivial, ⟨⟨0, rfl⟩, trivial⟩, trivial⟩) (fun _ _ _ h => h) ?_
    refine VB.va (i := 5) (listed' := LB 8 63) rfl (op_extract rfl rfl (ltn rfl)) rfl (by kernel_rfl) (by kernel_rfl) (by kernel_rfl) (by kernel_rfl) (by decide) (PartP.on ⟨⟨⟨0, rfl⟩, ⟨1, rfl⟩, trivial⟩, trivial, trivial⟩ ⟨trivial, ⟨⟨0, rfl⟩, trivial⟩, trivial⟩) (fun _ _ _ h => h) ?_
    refine VB.one1 (i := 6) (listed' := LB 8 127) (by kernel_rfl) rfl (o_store 0 2 rfl rfl rfl TI25 (.agg (.f 0 rfl (.f 1 rfl .nil))) rfl (len rfl)) rfl (by kernel_rfl) (PartP.off (by kernel_rfl) ⟨⟨⟨0, rfl⟩, ⟨1, rfl⟩, trivial⟩, trivial, trivial⟩) ?_
    refine VB.va (i := 7) (listed' := LB 8 255) rfl (op_assign rfl (ltn rfl)) rfl (by kernel_rfl) (by kernel_rfl) (by kernel_rfl) (by kernel_rfl) (by decide) (PartP.off (by kernel_rfl) ⟨⟨⟨0, rfl⟩, ⟨1, rfl⟩, trivial⟩, trivial, trivial⟩) (fun _ _ _ h => h) ?_
    refine VB.done (by kernel_rfl) ?_
    exact VN.meet2 v2377 v2379 [0] [] trivial ⟨rfl, ⟨rfl, rfl, rfl, rfl, trivial⟩, ⟨⟨0, rfl⟩, ⟨1, rfl⟩, trivial⟩, rfl, by decide, rfl, by decide⟩
  intro v2377 v2379 _
  refine VC.seq ?_
  refine VC.region ?_
  refine VL.va (op_load 0 2 rfl rfl TI25 rfl (fun h => absurd h (by decide)) (ltn rfl)) rfl ?_
  replace h := Option.bind_eq_some_iff.1 h
  obtain ⟨⟨r2380, r2381, t2382⟩, hA2383, h⟩ := h
  dsimp only at h
  refine VL.sC (o_call0 FO7 (disk_Crash.ok k r2372 r2373 0 3 v2377 v2379 r2380 r2381 t2382 hA2383) rfl rfl (ltn rfl) (All_of (.cons (List.mem_of_getElem? (i := 0) rfl) (.cons (List.mem_of_getElem? (i := 1) rfl) .nil)))) rfl ?_
  rintro _ _ _ ⟨v2385, v2387, rfl, rfl, rfl⟩
  refine VL.va (op_move rfl (ltn rfl)) rfl ?_
  refine VL.va (op_extract rfl rfl (ltn rfl)) rfl ?_
  refine VL.va (op_extract rfl rfl (ltn rfl)) rfl ?_
  refine VL.step1 (o_store 0 2 rfl rfl rfl TI25 (.agg (.r 0 rfl (.r 1 rfl .nil))) rfl (len rfl)) rfl ?_
  refine VL.va (op_assign rfl (ltn rfl)) rfl ?_
  refine VL.done ?_
  refine VN.then ?_
  refine VC.seq ?_
  refine VC.region ?_
  refine VL.va (op_load 0 2 rfl rfl TI25 rfl (fun h => absurd h (by decide)) (ltn rfl)) rfl ?_
  replace h := Option.bind_eq_some_iff.1 h
  obtain ⟨⟨t2388, t2389⟩, hA2390, h⟩ := h
  dsimp only at h
  refine VL.sC (o_call_b0 FO11 (disk_Get.ok k r2380 r2381 1 v2385 v2387 t2388 t2389 hA2390) rfl rfl (ltn rfl) (All_of (.cons (.inr (.inl ⟨_, List.mem_of_getElem? (i := 0) rfl, rfl⟩)) (.cons (.inr (.inl ⟨_, List.mem_of_getElem? (i := 1) rfl, rfl⟩)) .nil))) (by rintro _ _ _ ⟨rfl, rfl, rfl⟩; rfl)) rfl ?_
  rintro _ _ _ ⟨rfl, rfl, rfl⟩
  refine VL.va (op_move rfl (ltn rfl)) rfl ?_
  refine VL.va (op_extract rfl rfl (ltn rfl)) rfl ?_
  refine VL.va (op_extract rfl rfl (ltn rfl)) rfl ?_
  refine VL.va (op_assign rfl (ltn rfl)) rfl ?_
  refine VL.va (op_assign rfl (ltn rfl)) rfl ?_
  refine VL.done ?_
  refine VN.then ?_
  refine VC.seq ?_
  refine VC.region ?_
  refine VL.va (op_move rfl (ltn rfl)) rfl ?_
  refine VL.letter ((t2363 == 0)) fun b2403 hb2403 => ?_
  refine VL.va (op_cmp rfl rfl (congrArg some hb2403) (ltn rfl)) rfl ?_
  refine VL.va (op_move rfl (ltn rfl)) rfl ?_
  by_cases c2404 : t2363 = 0
  · rw [if_pos c2404] at h
    obtain rfl : b2403 = true := hb2403.symm.trans (beq_iff_eq.2 c2404)
    refine VL.va (op_move rfl (ltn rfl)) rfl ?_
    refine VL.letter ((t2374 == 0)) fun b2405 hb2405 => ?_
    refine VL.va (op_cmp rfl rfl (congrArg some hb2405) (ltn rfl)) rfl ?_
    refine VL.va (op_pick rfl rfl (ltn rfl)) rfl ?_
    refine VL.va (op_move rfl (ltn rfl)) rfl ?_
    by_cases c2406 : t2374 = 0
    · rw [if_pos c2406] at h
      obtain rfl : b2405 = true := hb2405.symm.trans (beq_iff_eq.2 c2406)
      refine VL.va (op_move rfl (ltn rfl)) rfl ?_
      refine VL.letter ((t2382 == 0)) fun b2407 hb2407 => ?_
      refine VL.va (op_cmp rfl rfl (congrArg some hb2407) (ltn rfl)) rfl ?_
      refine VL.va (op_pick rfl rfl (ltn rfl)) rfl ?_
      refine VL.va (op_move rfl (ltn rfl)) rfl ?_
      by_cases c2408 : t2382 = 0
      · rw [if_pos c2408] at h
        obtain rfl : b2407 = true := hb2407.symm.trans (beq_iff_eq.2 c2408)
        refine VL.va (op_move rfl (ltn rfl)) rfl ?_
        refine VL.letter ((t2389 == 0)) fun b2409 hb2409 => ?_
        refine VL.va (op_cmp rfl rfl (congrArg some hb2409) (ltn rfl)) rfl ?_
        refine VL.va (op_pick rfl rfl (ltn rfl)) rfl ?_
        refine VL.va (op_move rfl (ltn rfl)) rfl ?_
        by_cases c2410 : t2389 = 0
        · rw [if_pos c2410] at h
          obtain rfl : b2409 = true := hb2409.symm.trans (beq_iff_eq.2 c2410)
          refine VL.va (op_move rfl (ltn rfl)) rfl ?_
          refine VL.va (op_lens Try.underlying9 rfl (ltn rfl)) rfl ?_
          refine VL.letter (((t2388.size : Int) == 64)) fun b2411 hb2411 => ?_
          refine VL.va (op_cmp rfl rfl (congrArg some hb2411) (ltn rfl)) rfl ?_
          refine VL.va (op_pick rfl rfl (ltn rfl)) rfl ?_
          refine VL.va (op_move rfl (ltn rfl)) rfl ?_
          by_cases c2412 : (t2388.size : Int) = 64
          · rw [if_pos c2412] at h
            obtain rfl : b2411 = true := hb2411.symm.trans (beq_iff_eq.2 c2412)
            refine VL.va (op_move rfl (ltn rfl)) rfl ?_
            by_cases c2413 : 4 ≤ (t2388.size : Int)
            · rw [if_pos c2413] at h
              refine VL.va (op_sliceS 0 4 Try.underlying9 rfl ⟨rfl, ⟨_, _, rfl, (by decide), rfl⟩, by omega, by omega⟩ rfl (ltn rfl)) rfl ?_
              refine VL.letter (((t2388.extract 0 4) == (⟨#[97, 97, 97, 0]⟩ : ByteArray))) fun b2414 hb2414 => ?_
              refine VL.va (op_cmps rfl rfl (congrArg some hb2414) (ltn rfl)) rfl ?_
              refine VL.va (op_pick rfl rfl (ltn rfl)) rfl ?_
              refine VL.va (op_assign rfl (ltn rfl)) rfl ?_
              refine VL.done ?_
              refine VN.then ?_
              refine VC.ret ?_
              obtain rfl := Option.some.inj h
              subst hb2414
              exact VR.fn (rs := [.tmp 0]) [] [] [] rfl (.tmp rfl .nil) ⟨rfl, rfl, rfl⟩ trivial rfl (by decide)
            · rw [if_neg c2413] at h; cases h
          · rw [if_neg c2412] at h
            obtain rfl : b2411 = false := hb2411.symm.trans (beq_eq_false_iff_ne.2 c2412)
            refine VL.un rfl rfl (ltn rfl) ?_
            refine VL.un rfl rfl (ltn rfl) ?_
            refine VL.un rfl rfl (ltn rfl) ?_
            refine VL.va (op_pick rfl rfl (ltn rfl)) rfl ?_
            refine VL.va (op_assign rfl (ltn rfl)) rfl ?_
            refine VL.done ?_
            refine VN.then ?_
            refine VC.ret ?_
            obtain rfl := Option.some.inj h
            exact VR.fn (rs := [.tmp 0]) [] [] [] rfl (.tmp rfl .nil) ⟨rfl, rfl, rfl⟩ trivial rfl (by decide)
        · rw [if_neg c2410] at h
          obtain rfl : b2409 = false := hb2409.symm.trans (beq_eq_false_iff_ne.2 c2410)
          refine VL.un rfl rfl (ltn rfl) ?_
          refine VL.un rfl rfl (ltn rfl) ?_
          refine VL.un rfl rfl (ltn rfl) ?_
          refine VL.va (op_pick rfl rfl (ltn rfl)) rfl ?_
          refine VL.va (op_move rfl (ltn rfl)) rfl ?_
          refine VL.un rfl rfl (ltn rfl) ?_
          refine VL.un rfl rfl (ltn rfl) ?_
          refine VL.un rfl rfl (ltn rfl) ?_
          refine VL.va (op_pick rfl rfl (ltn rfl)) rfl ?_
          refine VL.va (op_assign rfl (ltn rfl)) rfl ?_
          refine VL.done ?_
          refine VN.then ?_
          refine VC.ret ?_
          obtain rfl := Option.some.inj h
          exact VR.fn (rs := [.tmp 0]) [] [] [] rfl (.tmp rfl .nil) ⟨rfl, rfl, rfl⟩ trivial rfl (by decide)
      · rw [if_neg c2408] at h
        obtain rfl : b2407 = false := hb2407.symm.trans (beq_eq_false_iff_ne.2 c2408)
        refine VL.un rfl rfl (ltn rfl) ?_
        refine VL.un rfl rfl (ltn rfl) ?_
        refine VL.va (op_pick rfl rfl (ltn rfl)) rfl ?_
        refine VL.va (op_move rfl (ltn rfl)) rfl ?_
        refine VL.un rfl rfl (ltn rfl) ?_
        refine VL.un rfl rfl (ltn rfl) ?_
        refine VL.un rfl rfl (ltn rfl) ?_
        refine VL.va (op_pick rfl rfl (ltn rfl)) rfl ?_
        refine VL.va (op_move rfl (ltn rfl)) rfl ?_
        refine VL.un rfl rfl (ltn rfl) ?_
        refine VL.un rfl rfl (ltn rfl) ?_
        refine VL.un rfl rfl (ltn rfl) ?_
        refine VL.va (op_pick rfl rfl (ltn rfl)) rfl ?_
        refine VL.va (op_assign rfl (ltn rfl)) rfl ?_
        refine VL.done ?_
        refine VN.then ?_
        refine VC.ret ?_
        obtain rfl := Option.some.inj h
        exact VR.fn (rs := [.tmp 0]) [] [] [] rfl (.tmp rfl .nil) ⟨rfl, rfl, rfl⟩ trivial rfl (by decide)
    · rw [if_neg c2406] at h
      obtain rfl : b2405 = false := hb2405.symm.trans (beq_eq_false_iff_ne.2 c2406)
      refine VL.un rfl rfl (ltn rfl) ?_
      refine VL.un rfl rfl (ltn rfl) ?_
      refine VL.va (op_pick rfl rfl (ltn rfl)) rfl ?_
      refine VL.va (op_move rfl (ltn rfl)) rfl ?_
      refine VL.un rfl rfl (ltn rfl) ?_
      refine VL.un rfl rfl (ltn rfl) ?_
      refine VL.va (op_pick rfl rfl (ltn rfl)) rfl ?_
      refine VL.va (op_move rfl (ltn rfl)) rfl ?_
      refine VL.un rfl rfl (ltn rfl) ?_
      refine VL.un rfl rfl (ltn rfl) ?_
      refine VL.un rfl rfl (ltn rfl) ?_
      refine VL.va (op_pick rfl rfl (ltn rfl)) rfl ?_
      refine VL.va (op_move rfl (ltn rfl)) rfl ?_
      refine VL.un rfl rfl (ltn rfl) ?_
      refine VL.un rfl rfl (ltn rfl) ?_
      refine VL.un rfl rfl (ltn rfl) ?_
      refine VL.va (op_pick rfl rfl (ltn rfl)) rfl ?_
      refine VL.va (op_assign rfl (ltn rfl)) rfl ?_
      refine VL.done ?_
      refine VN.then ?_
      refine VC.ret ?_
      obtain rfl := Option.some.inj h
      exact VR.fn (rs := [.tmp 0]) [] [] [] rfl (.tmp rfl .nil) ⟨rfl, rfl, rfl⟩ trivial rfl (by decide)
  · rw [if_neg c2404] at h
    obtain rfl : b2403 = false := hb2403.symm.trans (beq_eq_false_iff_ne.2 c2404)
    refine VL.un rfl rfl (ltn rfl) ?_
    refine VL.un rfl rfl (ltn rfl) ?_
    refine VL.va (op_pick rfl rfl (ltn rfl)) rfl ?_
    refine VL.va (op_move rfl (ltn rfl)) rfl ?_
    refine VL.un rfl rfl (ltn rfl) ?_
    refine VL.un rfl rfl (ltn rfl) ?_
    refine VL.va (op_pick rfl rfl (ltn rfl)) rfl ?_
    refine VL.va (op_move rfl (ltn rfl)) rfl ?_
    refine VL.un rfl rfl (ltn rfl) ?_
    refine VL.un rfl rfl (ltn rfl) ?_
    refine VL.va (op_pick rfl rfl (ltn rfl)) rfl ?_
    refine VL.va (op_move rfl (ltn rfl)) rfl ?_
    refine VL.un rfl rfl (ltn rfl) ?_
    refine VL.un rfl rfl (ltn rfl) ?_
    refine VL.un rfl rfl (ltn rfl) ?_
    refine VL.va (op_pick rfl rfl (ltn rfl)) rfl ?_
    refine VL.va (op_move rfl (ltn rfl)) rfl ?_
    refine VL.un rfl rfl (ltn rfl) ?_
    refine VL.un rfl rfl (ltn rfl) ?_
    refine VL.un rfl rfl (ltn rfl) ?_
    refine VL.va (op_pick rfl rfl (ltn rfl)) rfl ?_
    refine VL.va (op_assign rfl (ltn rfl)) rfl ?_
    refine VL.done ?_
    refine VN.then ?_
    refine VC.ret ?_
    obtain rfl := Option.some.inj h
    exact VR.fn (rs := [.tmp 0]) [] [] [] rfl (.tmp rfl .nil) ⟨rfl, rfl, rfl⟩ trivial rfl (by decide)
set_option maxHeartbeats 4000000 in
set_option maxRecDepth 100000 in
theorem tarryref03_Kept.ok (k : Nat) (a0 : Int) (a1 : Int)  (r1 : Bool) (h : tarryref03_Kept.f k a0 a1 = some r1) :
    VCalls Try.prog 33 [.int .u64 a0, .int .i64 a1] [] (fun v G own => v = .bool r1 ∧ G = [] ∧ own = []) := by
  refine VCalls.intro Try.func33 rfl (len rfl) fun E hC hW hD hU => ?_
  unfold tarryref03_Kept.f at h
  refine VC.seq ?_
  refine VC.region ?_
  refine VL.va (op_assign rfl (ltn rfl)) rfl ?_
  refine VL.done ?_
  refine VN.then ?_
  refine VC.seq ?_
  refine VC.seq ?_
  refine VC.region ?_
  refine VL.va (op_assign rfl (ltn rfl)) rfl ?_
  refine VL.done ?_
  refine VN.then ?_
  refine VC.block ?_
  refine VC.loop2 (fun (i2518 : Int) (i2519 : Int) => ⟨16, [(0, .int .u64 i2518), (1, .int .i64 a1), (4, .bool false), (5, .int .i64 i2519)], [], [], []⟩) (fun (ml1 : Nat) (i2518 : Int) (i2519 : Int) => tarryref03_Kept.l1 k a1 ml1 i2518 i2519 = some r1) k a0 0 [] [] h ⟨rfl, ⟨rfl, rfl, rfl, rfl, trivial⟩, trivial, rfl, by decide, rfl, by decide⟩ (by intros; simp [tarryref03_Kept.l1]) ?_
  clear h
  intro ml1 ihl1 i2518 i2519 h
  simp only [tarryref03_Kept.l1] at h
  refine VC.seq ?_
  refine VC.seq ?_
  refine VC.region ?_
  refine VL.va (op_move rfl (ltn rfl)) rfl ?_
  refine VL.va (op_move rfl (ltn rfl)) rfl ?_
  refine VL.letter (decide (i2519 < a1)) fun b2527 hb2527 => ?_
  refine VL.va (op_cmp rfl rfl (congrArg some hb2527) (ltn rfl)) rfl ?_
  refine VL.done ?_
  refine VN.then ?_
  by_cases c2528 : i2519 < a1
  · rw [if_pos c2528] at h
    obtain rfl : b2527 = true := hb2527.symm.trans (decide_eq_true c2528)
    refine VC.cond_t rfl ?_
    refine VC.skip ?_
    refine VN.then ?_
    refine VC.seq ?_
    refine VC.block ?_
    refine VC.region ?_
    refine VL.va (op_move rfl (ltn rfl)) rfl ?_
    refine VL.va (op_quo rfl rfl (by decide) rfl (ltn rfl)) rfl ?_
    refine VL.va (op_assign rfl (ltn rfl)) rfl ?_
    refine VL.done ?_
    refine VN.block ?_
    refine VN.then ?_
    refine VC.region ?_
    refine VL.va (op_move rfl (ltn rfl)) rfl ?_
    refine VL.va (op_ari64 rfl rfl rfl (ltn rfl)) rfl ?_
    refine VL.va (op_assign rfl (ltn rfl)) rfl ?_
    refine VL.done ?_
    refine VN.again [] [] (ihl1 (IntKind.u64.wrap (i2518.tdiv 2)) (wrap64 (i2519 + 1)) h) ⟨rfl, ⟨rfl, rfl, rfl, rfl, trivial⟩, trivial, rfl, by decide, rfl, by decide⟩
  · rw [if_neg c2528] at h
    obtain rfl : b2527 = false := hb2527.symm.trans (decide_eq_false c2528)
    refine VC.cond_f rfl ?_
    refine VC.exit ?_
    refine VX.then ?_
    refine VX.then ?_
    refine VX.hit ?_
    refine VN.then ?_
    refine VC.seq ?_
    refine VC.region ?_
    refine VL.va (op_move rfl (ltn rfl)) rfl ?_
    refine VL.va (op_rem rfl rfl (by decide) rfl (ltn rfl)) rfl ?_
    refine VL.letter (((i2518.tmod 2) == 1)) fun b2529 hb2529 => ?_
    refine VL.va (op_cmp rfl rfl (congrArg some hb2529) (ltn rfl)) rfl ?_
    refine VL.va (op_assign rfl (ltn rfl)) rfl ?_
    refine VL.done ?_
    refine VN.then ?_
    refine VC.ret ?_
    obtain rfl := Option.some.inj h
    subst hb2529
    exact VR.fn (rs := [.tmp 4]) [] [] [] rfl (.tmp rfl .nil) ⟨rfl, rfl, rfl⟩ trivial rfl (by decide)
set_option maxHeartbeats 4000000 in
set_option maxRecDepth 100000 in
theorem tarryref03_Set.ok (l0 : List ByteArray) (a1 : Int) (a2 : ByteArray) (v0 : Value) (r1 : List ByteArray) (h : tarryref03_Set.f l0 a1 a2 = some r1) :
    VCalls Try.prog 34 [v0, .int .i64 a1, .string a2] [.row v0 1 (l0.map enc_str)] (fun v G own => ∃ w0 : Value, v = w0 ∧ G = [] ∧ own = [(w0, 9, 1, r1.map enc_str)]) := by
  refine VCalls.intro Try.func34 rfl (len rfl) fun E hC hW hD hU => ?_
  unfold tarryref03_Set.f at h
  refine VC.seq ?_
  refine VC.region ?_
  refine VL.va (op_assign rfl (ltn rfl)) rfl ?_
  refine VL.done ?_
  refine VN.then ?_
  refine VC.seq ?_
  refine VC.region ?_
  refine VL.sG (o_buildSlice (vals := []) (cells := #[]) (es := List.map enc_str ([] : List ByteArray)) Try.underlying22 TI9 Z9 rfl (by decide) (by decide) (by kernel_rfl) (by kernel_rfl) rfl (flat_map enc_str_ok _) (ltn rfl)) rfl ?_
  intro v2535
  refine VL.va (op_assign rfl (ltn rfl)) rfl ?_
  refine VL.done ?_
  refine VN.then ?_
  refine VC.seq ?_
  refine VC.region ?_
  refine VL.va (op_move rfl (ltn rfl)) rfl ?_
  refine VL.va (op_move rfl (ltn rfl)) rfl ?_
  refine VL.va (op_move rfl (ltn rfl)) rfl ?_
  by_cases c2536 : 0 ≤ a1
  · rw [if_pos c2536] at h
    by_cases c2537 : a1 ≤ (l0.length : Int)
    · rw [if_pos c2537] at h
      refine VL.sG (o_slice (m := l0.length) 0 0 a1.toNat lenm cutm Try.underlying22 TI9 rfl rfl ⟨rfl, ⟨_, _, rfl, c2536, rfl⟩, by omega, by omega⟩ (ltn rfl)) rfl ?_
      intro v2539
      by_cases c2540 : (([] : List ByteArray).length + ((l0.take a1.toNat).drop 0).length) * 16 ≤ 140737488355328
      · rw [if_pos c2540] at h
        refine VL.sG (o_append 0 appm Try.underlying22 EI9 rfl rfl rfl (.inl ⟨0, rfl⟩) (bndm c2540) (ltn rfl)) rfl ?_
        intro v2541
        refine VL.va (op_assign rfl (ltn rfl)) rfl ?_
        refine VL.done ?_
        refine VN.then ?_
        refine VC.seq ?_
        refine VC.region ?_
        refine VL.va (op_move rfl (ltn rfl)) rfl ?_
        refine VL.va (op_move rfl (ltn rfl)) rfl ?_
        refine VL.sG (o_buildSlice (vals := [(0, .string a2)]) (cells := #[.string a2]) (es := List.map enc_str ([a2] : List ByteArray)) Try.underlying22 TI9 Z9 rfl (by decide) (by decide) (by kernel_rfl) (by kernel_rfl) rfl (flat_map enc_str_ok _) (ltn rfl)) rfl ?_
        intro v2544
        by_cases c2545 : ((([] : List ByteArray) ++ ((l0.take a1.toNat).drop 0)).length + ([a2] : List ByteArray).length) * 16 ≤ 140737488355328
        · rw [if_pos c2545] at h
          refine VL.sG (o_append 1 appm Try.underlying22 EI9 rfl rfl rfl (.inr ⟨0, _, rfl⟩) (bndm c2545) (ltn rfl)) rfl ?_
          intro v2546
          refine VL.va (op_assign rfl (ltn rfl)) rfl ?_
          refine VL.done ?_
          refine VN.then ?_
          refine VC.seq ?_
          refine VC.region ?_
          refine VL.va (op_move rfl (ltn rfl)) rfl ?_
          refine VL.va (op_move rfl (ltn rfl)) rfl ?_
          refine VL.va (op_move rfl (ltn rfl)) rfl ?_
          refine VL.va (op_ari64 rfl rfl rfl (ltn rfl)) rfl ?_
          by_cases c2548 : 0 ≤ wrap64 (a1 + 1)
          · rw [if_pos c2548] at h
            by_cases c2549 : (wrap64 (a1 + 1)) ≤ (l0.length : Int)
            · rw [if_pos c2549] at h
              refine VL.sG (o_slice (m := l0.length) 1 ((wrap64 (a1 + 1)).toNat) l0.length lenm cutm Try.underlying22 TI9 rfl rfl ⟨⟨_, _, rfl, c2548, rfl⟩, rfl, by omega, by omega⟩ (ltn rfl)) rfl ?_
              intro v2551
              by_cases c2552 : (((([] : List ByteArray) ++ ((l0.take a1.toNat).drop 0)) ++ ([a2] : List ByteArray)).length + ((l0.take l0.length).drop ((wrap64 (a1 + 1)).toNat)).length) * 16 ≤ 140737488355328
              · rw [if_pos c2552] at h
                refine VL.sG (o_append 1 appm Try.underlying22 EI9 rfl rfl rfl (.inl ⟨0, rfl⟩) (bndm c2552) (ltn rfl)) rfl ?_
                intro v2553
                refine VL.va (op_assign rfl (ltn rfl)) rfl ?_
                refine VL.done ?_
                refine VN.then ?_
                refine VC.seq ?_
                refine VC.region ?_
                refine VL.va (op_move rfl (ltn rfl)) rfl ?_
                refine VL.va (op_assign rfl (ltn rfl)) rfl ?_
                refine VL.done ?_
                refine VN.then ?_
                refine VC.ret ?_
                obtain rfl := Option.some.inj h
                exact VR.fn (rs := [.tmp 6]) [] [(v2553, 9, 1, (((([] : List ByteArray) ++ ((l0.take a1.toNat).drop 0)) ++ ([a2] : List ByteArray)) ++ ((l0.take l0.length).drop ((wrap64 (a1 + 1)).toNat))).map enc_str)] [1] rfl (.tmp rfl .nil) ⟨v2553, rfl, rfl, rfl⟩ trivial rfl (by decide)
              · rw [if_neg c2552] at h; cases h
            · rw [if_neg c2549] at h; cases h
          · rw [if_neg c2548] at h; cases h
        · rw [if_neg c2545] at h; cases h
      · rw [if_neg c2540] at h; cases h
    · rw [if_neg c2537] at h; cases h
  · rw [if_neg c2536] at h; cases h

end Go.Proofs.Ytlfkendmepdbkaa.PDiskWorks
