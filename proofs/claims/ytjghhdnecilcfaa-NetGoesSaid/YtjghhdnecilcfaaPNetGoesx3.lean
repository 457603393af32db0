/- Written by a program of this repo: what the program's functions do, each as a Lean function, shown of the loaded code; or a statement's row over that; no condition of its own. -/
import Derived.Test.YtjghhdnecilcfaaPNetGoesx2
namespace Go.Proofs.Ytjghhdnecilcfaa.PNetGoes
open Go Go.RowKit Go.Proofs.YtjghhdnecilcfaaV
set_option linter.unusedVariables false
set_option linter.unusedSimpArgs false

set_option maxHeartbeats 4000000 in
set_option maxRecDepth 100000 in
theorem tarrylaw15_right.ok (k : Nat) (l0_0 : List S25) (a0_1 : Int) (v0_0 : Value) (r1 : Bool) (h : tarrylaw15_right.f k l0_0 a0_1 = some r1) :
    VCalls Try.prog 12 [.agg #[v0_0, .int .i64 a0_1]] [.row v0_0 6 (l0_0.map enc25)] (fun v G own => v = .bool r1 ∧ G = [] ∧ own = []) := by
  refine VCalls.intro Try.func12 rfl (len rfl) fun E hC => ?_
  unfold tarrylaw15_right.f at h
  refine VC.seq ?_
  refine VC.region ?_
  refine VL.sG (o_box rfl (.agg (.f 0 rfl (.c rfl .nil))) (ltn rfl)) rfl ?_
  intro g701
  refine VL.va (op_assign rfl (ltn rfl)) rfl ?_
  refine VL.done ?_
  refine VN.then ?_
  refine VC.seq ?_
  refine VC.seq ?_
  refine VC.region ?_
  refine VL.va (op_fieldAddr FI24_0 rfl (add_at _ _ _) (ltn rfl)) rfl ?_
  refine VL.va (op_load 0 1 rfl rfl TI22 rfl (by decide) (ltn rfl)) rfl ?_
  refine VL.va (op_len (m := l0_0.length) 0 lenm Try.underlying22 rfl rfl (ltn rfl)) rfl ?_
  refine VL.va (op_move rfl (ltn rfl)) rfl ?_
  refine VL.done ?_
  refine VN.then ?_
  refine VC.block ?_
  refine VC.loop1 (fun (i912 : Int) => ⟨42, [(1, .pointer (some ⟨g701, 0, none⟩)), (2, .bool false), (6, v0_0), (7, .int .i64 (l0_0.length : Int)), (8, .int .i64 i912)], [.row v0_0 6 (l0_0.map enc25)], [(g701, 24, [v0_0, .int .i64 a0_1])], []⟩) (fun (k : Nat) (i912 : Int) => tarrylaw15_right.l1 a0_1 l0_0 k i912 = some r1) k 0 [0] [] h ⟨rfl, ⟨rfl, rfl, rfl, rfl, rfl, trivial⟩, ⟨⟨0, rfl⟩, trivial⟩, rfl, by decide, rfl, by decide⟩ (by intros; simp [tarrylaw15_right.l1]) ?_
  intro k ih i912 h
  simp only [tarrylaw15_right.l1] at h
  refine VC.seq ?_
  refine VC.region ?_
  refine VL.letter (decide (i912 < (l0_0.length : Int))) fun b952 hb952 => ?_
  refine VL.va (op_cmp rfl rfl (congrArg some hb952) (ltn rfl)) rfl ?_
  refine VL.done ?_
  refine VN.then ?_
  refine VC.seq ?_
  by_cases c966 : i912 < (l0_0.length : Int)
  · rw [if_pos c966] at h
    obtain rfl : b952 = true := hb952.symm.trans (decide_eq_true c966)
    refine VC.cond_t rfl ?_
    refine VC.skip ?_
    refine VN.then ?_
    refine VC.seq ?_
    refine VC.block ?_
    refine VC.seq ?_
    refine VC.region ?_
    by_cases c985 : 0 ≤ i912
    · rw [if_pos c985] at h
      replace h := Option.bind_eq_some_iff.1 h
      obtain ⟨x986, hx986, h⟩ := h
      refine VL.open (m := l0_0.length) 0 lenm rfl (pos_get hx986) ?_
      rintro ad987 n988 rfl
      refine VL.va (op_indexAddr Try.underlying22 TI26 rfl rfl c985 (lt_get c985 hx986) rfl (ltn rfl)) rfl ?_
      refine VL.va (op_load_row (o := 0) 0 i912.toNat 6 rfl rfl (get_map hx986) TI26 rfl (fun h => absurd h (by decide)) (ltn rfl)) rfl ?_
      refine VL.sG (o_alloc (us := [.int .i64 0, .bool false, .int .i64 0, .int .i64 0, .int .i64 0, .bool false]) Z26 rfl (ltn rfl)) rfl ?_
      intro g989
      refine VL.step1 (o_store 0 6 rfl rfl rfl TI26 (.agg (.c rfl (.c rfl (.c rfl (.c rfl (.c rfl (.c rfl .nil))))))) rfl (len rfl)) rfl ?_
      refine VL.done ?_
      refine VN.then ?_
      refine VC.seq ?_
      refine VC.region ?_
      refine VL.va (op_load 0 6 rfl rfl TI26 rfl (fun h => absurd h (by decide)) (ltn rfl)) rfl ?_
      replace h := Option.bind_eq_some_iff.1 h
      obtain ⟨t996, hA997, h⟩ := h
      refine VL.sC (o_call0 FO14 (tarrylaw15_may.ok x986.f0 x986.f1 x986.f2 x986.f3 x986.f4 x986.f5 t996 hA997) rfl rfl (ltn rfl) (All_of .nil)) rfl ?_
      rintro _ _ _ ⟨rfl, rfl, rfl⟩
      by_cases c998 : t996 = true
      · rw [if_pos c998] at h
        obtain rfl := c998
        refine VL.va (op_not rfl rfl (ltn rfl)) rfl ?_
        refine VL.va (op_move rfl (ltn rfl)) rfl ?_
        refine VL.va (op_fieldAddr FI26_0 rfl (add_at _ _ _) (ltn rfl)) rfl ?_
        refine VL.va (op_load 0 1 rfl rfl TI3 rfl (by decide) (ltn rfl)) rfl ?_
        refine VL.letter (decide (x986.f0 < 1)) fun b999 hb999 => ?_
        refine VL.va (op_cmp rfl rfl (congrArg some hb999) (ltn rfl)) rfl ?_
        refine VL.va (op_pick rfl rfl (ltn rfl)) rfl ?_
        refine VL.va (op_move rfl (ltn rfl)) rfl ?_
        by_cases c1000 : x986.f0 < 1
        · rw [if_pos c1000] at h
          obtain rfl : b999 = true := hb999.symm.trans (decide_eq_true c1000)
          refine VL.un rfl rfl (ltn rfl) ?_
          refine VL.un rfl rfl (ltn rfl) ?_
          refine VL.un rfl rfl (ltn rfl) ?_
          refine VL.un rfl rfl (ltn rfl) ?_
          refine VL.un rfl rfl (ltn rfl) ?_
          refine VL.va (op_pick rfl rfl (ltn rfl)) rfl ?_
          refine VL.done ?_
          refine VN.then ?_
          refine VC.cond_t rfl ?_
          refine VC.seq ?_
          refine VC.region ?_
          refine VL.va (op_assign rfl (ltn rfl)) rfl ?_
          refine VL.done ?_
          refine VN.then ?_
          refine VC.ret ?_
          refine VR.block ?_
          refine VR.then ?_
          refine VR.then ?_
          refine VR.block ?_
          refine VR.then ?_
          obtain rfl := Option.some.inj h
          exact VR.fn (rs := [.tmp 2]) [] [] [] rfl (.tmp rfl .nil) ⟨rfl, rfl, rfl⟩ trivial rfl (by decide)
        · rw [if_neg c1000] at h
          obtain rfl : b999 = false := hb999.symm.trans (decide_eq_false c1000)
          refine VL.va (op_fieldAddr FI26_0 rfl (add_at _ _ _) (ltn rfl)) rfl ?_
          refine VL.va (op_load 0 1 rfl rfl TI3 rfl (by decide) (ltn rfl)) rfl ?_
          refine VL.va (op_fieldAddr FI24_1 rfl (add_at _ _ _) (ltn rfl)) rfl ?_
          refine VL.va (op_load 1 1 rfl rfl TI3 rfl (by decide) (ltn rfl)) rfl ?_
          refine VL.letter (decide (x986.f0 > a0_1)) fun b1001 hb1001 => ?_
          refine VL.va (op_cmp rfl rfl (congrArg some hb1001) (ltn rfl)) rfl ?_
          refine VL.va (op_pick rfl rfl (ltn rfl)) rfl ?_
          refine VL.done ?_
          refine VN.then ?_
          by_cases c1002 : x986.f0 > a0_1
          · rw [if_pos c1002] at h
            obtain rfl : b1001 = true := hb1001.symm.trans (decide_eq_true c1002)
            refine VC.cond_t rfl ?_
            refine VC.seq ?_
            refine VC.region ?_
            refine VL.va (op_assign rfl (ltn rfl)) rfl ?_
            refine VL.done ?_
            refine VN.then ?_
            refine VC.ret ?_
            refine VR.block ?_
            refine VR.then ?_
            refine VR.then ?_
            refine VR.block ?_
            refine VR.then ?_
            obtain rfl := Option.some.inj h
            exact VR.fn (rs := [.tmp 2]) [] [] [] rfl (.tmp rfl .nil) ⟨rfl, rfl, rfl⟩ trivial rfl (by decide)
          · rw [if_neg c1002] at h
            obtain rfl : b1001 = false := hb1001.symm.trans (decide_eq_false c1002)
            refine VC.cond_f rfl ?_
            refine VC.skip ?_
            refine VN.block ?_
            refine VN.then ?_
            refine VC.region ?_
            refine VL.va (op_ari64 rfl rfl rfl (ltn rfl)) rfl ?_
            refine VL.va (op_move rfl (ltn rfl)) rfl ?_
            refine VL.done ?_
            refine VN.again [1] [] (ih (wrap64 (i912 + 1)) h) ⟨rfl, ⟨rfl, rfl, rfl, rfl, rfl, trivial⟩, ⟨⟨0, rfl⟩, trivial⟩, rfl, by decide, rfl, by decide⟩
      · rw [if_neg c998] at h
        obtain rfl := Bool.eq_false_iff.2 c998
        refine VL.va (op_not rfl rfl (ltn rfl)) rfl ?_
        refine VL.va (op_move rfl (ltn rfl)) rfl ?_
        refine VL.un rfl rfl (ltn rfl) ?_
        refine VL.un rfl rfl (ltn rfl) ?_
        refine VL.un rfl rfl (ltn rfl) ?_
        refine VL.va (op_pick rfl rfl (ltn rfl)) rfl ?_
        refine VL.va (op_move rfl (ltn rfl)) rfl ?_
        refine VL.un rfl rfl (ltn rfl) ?_
        refine VL.un rfl rfl (ltn rfl) ?_
        refine VL.un rfl rfl (ltn rfl) ?_
        refine VL.un rfl rfl (ltn rfl) ?_
        refine VL.un rfl rfl (ltn rfl) ?_
        refine VL.va (op_pick rfl rfl (ltn rfl)) rfl ?_
        refine VL.done ?_
        refine VN.then ?_
        refine VC.cond_t rfl ?_
        refine VC.seq ?_
        refine VC.region ?_
        refine VL.va (op_assign rfl (ltn rfl)) rfl ?_
        refine VL.done ?_
        refine VN.then ?_
        refine VC.ret ?_
        refine VR.block ?_
        refine VR.then ?_
        refine VR.then ?_
        refine VR.block ?_
        refine VR.then ?_
        obtain rfl := Option.some.inj h
        exact VR.fn (rs := [.tmp 2]) [] [] [] rfl (.tmp rfl .nil) ⟨rfl, rfl, rfl⟩ trivial rfl (by decide)
    · rw [if_neg c985] at h; cases h
  · rw [if_neg c966] at h
    obtain rfl : b952 = false := hb952.symm.trans (decide_eq_false c966)
    refine VC.cond_f rfl ?_
    refine VC.exit ?_
    refine VX.then ?_
    refine VX.then ?_
    refine VX.hit ?_
    refine VN.then ?_
    refine VC.seq ?_
    refine VC.region ?_
    refine VL.va (op_fieldAddr FI24_0 rfl (add_at _ _ _) (ltn rfl)) rfl ?_
    refine VL.va (op_load 0 1 rfl rfl TI22 rfl (by decide) (ltn rfl)) rfl ?_
    refine VL.va (op_len (m := l0_0.length) 0 lenm Try.underlying22 rfl rfl (ltn rfl)) rfl ?_
    refine VL.letter (decide ((l0_0.length : Int) ≤ 64)) fun b1009 hb1009 => ?_
    refine VL.va (op_cmp rfl rfl (congrArg some hb1009) (ltn rfl)) rfl ?_
    refine VL.va (op_move rfl (ltn rfl)) rfl ?_
    by_cases c1010 : (l0_0.length : Int) ≤ 64
    · rw [if_pos c1010] at h
      obtain rfl : b1009 = true := hb1009.symm.trans (decide_eq_true c1010)
      refine VL.va (op_fieldAddr FI24_1 rfl (add_at _ _ _) (ltn rfl)) rfl ?_
      refine VL.va (op_load 0 1 rfl rfl TI3 rfl (by decide) (ltn rfl)) rfl ?_
      refine VL.letter ((a0_1 == 0)) fun b1011 hb1011 => ?_
      refine VL.va (op_cmp rfl rfl (congrArg some hb1011) (ltn rfl)) rfl ?_
      refine VL.va (op_move rfl (ltn rfl)) rfl ?_
      by_cases c1012 : a0_1 = 0
      · rw [if_pos c1012] at h
        obtain rfl : b1011 = true := hb1011.symm.trans (beq_iff_eq.2 c1012)
        refine VL.un rfl rfl (ltn rfl) ?_
        refine VL.un rfl rfl (ltn rfl) ?_
        refine VL.un rfl rfl (ltn rfl) ?_
        refine VL.va (op_pick rfl rfl (ltn rfl)) rfl ?_
        refine VL.va (op_pick rfl rfl (ltn rfl)) rfl ?_
        refine VL.va (op_assign rfl (ltn rfl)) rfl ?_
        refine VL.done ?_
        refine VN.then ?_
        refine VC.ret ?_
        obtain rfl := Option.some.inj h
        exact VR.fn (rs := [.tmp 2]) [] [] [] rfl (.tmp rfl .nil) ⟨rfl, rfl, rfl⟩ trivial rfl (by decide)
      · rw [if_neg c1012] at h
        obtain rfl : b1011 = false := hb1011.symm.trans (beq_eq_false_iff_ne.2 c1012)
        refine VL.va (op_fieldAddr FI24_1 rfl (add_at _ _ _) (ltn rfl)) rfl ?_
        refine VL.va (op_load 0 1 rfl rfl TI3 rfl (by decide) (ltn rfl)) rfl ?_
        replace h := Option.bind_eq_some_iff.1 h
        obtain ⟨t1013, hA1014, h⟩ := h
        refine VL.sC (o_call0 FO18 (tarrylaw15_in.ok a0_1 t1013 hA1014) rfl rfl (ltn rfl) (All_of .nil)) rfl ?_
        rintro _ _ _ ⟨rfl, rfl, rfl⟩
        refine VL.va (op_pick rfl rfl (ltn rfl)) rfl ?_
        refine VL.va (op_pick rfl rfl (ltn rfl)) rfl ?_
        refine VL.va (op_assign rfl (ltn rfl)) rfl ?_
        refine VL.done ?_
        refine VN.then ?_
        refine VC.ret ?_
        obtain rfl := Option.some.inj h
        exact VR.fn (rs := [.tmp 2]) [] [] [] rfl (.tmp rfl .nil) ⟨rfl, rfl, rfl⟩ trivial rfl (by decide)
    · rw [if_neg c1010] at h
      obtain rfl : b1009 = false := hb1009.symm.trans (decide_eq_false c1010)
      refine VL.un rfl rfl (ltn rfl) ?_
      refine VL.un rfl rfl (ltn rfl) ?_
      refine VL.un rfl rfl (ltn rfl) ?_
      refine VL.un rfl rfl (ltn rfl) ?_
      refine VL.un rfl rfl (ltn rfl) ?_
      refine VL.un rfl rfl (ltn rfl) ?_
      refine VL.un rfl rfl (ltn rfl) ?_
      refine VL.un rfl rfl (ltn rfl) ?_
      refine VL.va (op_pick rfl rfl (ltn rfl)) rfl ?_
      refine VL.va (op_assign rfl (ltn rfl)) rfl ?_
      refine VL.done ?_
      refine VN.then ?_
      refine VC.ret ?_
      obtain rfl := Option.some.inj h
      exact VR.fn (rs := [.tmp 2]) [] [] [] rfl (.tmp rfl .nil) ⟨rfl, rfl, rfl⟩ trivial rfl (by decide)
set_option maxHeartbeats 4000000 in
set_option maxRecDepth 100000 in
theorem tarrylaw15_alive.ok (k : Nat)   (r1 : Bool) (h : tarrylaw15_alive.f k = some r1) :
    VCalls Try.prog 13 [] [] (fun v G own => v = .bool r1 ∧ G = [] ∧ own = []) := by
  refine VCalls.intro Try.func13 rfl (len rfl) fun E hC => ?_
  unfold tarrylaw15_alive.f at h
  refine VC.seq ?_
  refine VC.region ?_
  refine VL.va (op_assign rfl (ltn rfl)) rfl ?_
  refine VL.done ?_
  refine VN.then ?_
  refine VC.seq ?_
  refine VC.region ?_
  refine VL.va (op_build (vals := []) (vcs := []) (cells := [.slice none 0 0, .int .i64 0]) SI24 rfl .nil (by kernel_rfl) (ltn rfl)) rfl ?_
  refine VL.va (op_build (vals := [(2, .int .i64 5), (3, .int .i64 1), (4, .int .i64 7)]) (vcs := [(2, [.int .i64 5]), (3, [.int .i64 1]), (4, [.int .i64 7])]) (cells := [.int .i64 0, .bool false, .int .i64 5, .int .i64 1, .int .i64 7, .bool false]) SI26 rfl (.cons ⟨rfl, (.c rfl)⟩ (.cons ⟨rfl, (.c rfl)⟩ (.cons ⟨rfl, (.c rfl)⟩ .nil))) (by kernel_rfl) (ltn rfl)) rfl ?_
  refine VL.nilFact' 6 ?_
  replace h := Option.bind_eq_some_iff.1 h
  obtain ⟨⟨r1020, t1021, t1022, t1023⟩, hA1024, h⟩ := h
  dsimp only at h
  refine VL.sC (o_call0 FO7 (net_Post.ok k [] 0 0 false 5 1 7 false (.slice none 0 0) r1020 t1021 t1022 t1023 hA1024) rfl rfl (ltn rfl) (All_of (.cons (List.mem_of_getElem? (i := 0) rfl) .nil))) rfl ?_
  rintro _ _ _ ⟨v1026, rfl, rfl, rfl⟩
  refine VL.va (op_move rfl (ltn rfl)) rfl ?_
  refine VL.va (op_extract rfl rfl (ltn rfl)) rfl ?_
  refine VL.va (op_extract rfl rfl (ltn rfl)) rfl ?_
  refine VL.va (op_extract rfl rfl (ltn rfl)) rfl ?_
  refine VL.sG (o_alloc (us := [.slice none 0 0, .int .i64 0]) Z24 rfl (ltn rfl)) rfl ?_
  intro g1027
  refine VL.step1 (o_store 0 2 rfl rfl rfl TI24 (.agg (.f 0 rfl (.c rfl .nil))) rfl (len rfl)) rfl ?_
  refine VL.va (op_assign rfl (ltn rfl)) rfl ?_
  refine VL.va (op_assign rfl (ltn rfl)) rfl ?_
  refine VL.done ?_
  refine VN.then ?_
  refine VC.seq ?_
  refine VC.region ?_
  refine VL.va (op_load 0 2 rfl rfl TI24 rfl (fun h => absurd h (by decide)) (ltn rfl)) rfl ?_
  replace h := Option.bind_eq_some_iff.1 h
  obtain ⟨⟨r1028, t1029, t1030, t1031, t1032, t1033, t1034, t1035, t1036⟩, hA1037, h⟩ := h
  dsimp only at h
  refine VL.sC (o_call0 FO8 (net_Take.ok k r1020 t1021 0 v1026 r1028 t1029 t1030 t1031 t1032 t1033 t1034 t1035 t1036 hA1037) rfl rfl (ltn rfl) (All_of (.cons (List.mem_of_getElem? (i := 0) rfl) .nil))) rfl ?_
  rintro _ _ _ ⟨v1039, rfl, rfl, rfl⟩
  refine VL.va (op_move rfl (ltn rfl)) rfl ?_
  refine VL.va (op_extract rfl rfl (ltn rfl)) rfl ?_
  refine VL.va (op_extract rfl rfl (ltn rfl)) rfl ?_
  refine VL.va (op_extract rfl rfl (ltn rfl)) rfl ?_
  refine VL.sG (o_alloc (us := [.slice none 0 0, .int .i64 0]) Z24 rfl (ltn rfl)) rfl ?_
  intro g1040
  refine VL.sG (o_alloc (us := [.int .i64 0, .bool false, .int .i64 0, .int .i64 0, .int .i64 0, .bool false]) Z26 rfl (ltn rfl)) rfl ?_
  intro g1041
  refine VL.step1 (o_store 1 2 rfl rfl rfl TI24 (.agg (.f 0 rfl (.c rfl .nil))) rfl (len rfl)) rfl ?_
  refine VL.step1 (o_store 0 6 rfl rfl rfl TI26 (.agg (.c rfl (.c rfl (.c rfl (.c rfl (.c rfl (.c rfl .nil))))))) rfl (len rfl)) rfl ?_
  refine VL.va (op_assign rfl (ltn rfl)) rfl ?_
  refine VL.done ?_
  refine VN.then ?_
  refine VC.seq ?_
  refine VC.region ?_
  refine VL.va (op_move rfl (ltn rfl)) rfl ?_
  refine VL.letter ((t1023 == 0)) fun b1049 hb1049 => ?_
  refine VL.va (op_cmp rfl rfl (congrArg some hb1049) (ltn rfl)) rfl ?_
  refine VL.va (op_move rfl (ltn rfl)) rfl ?_
  by_cases c1050 : t1023 = 0
  · rw [if_pos c1050] at h
    obtain rfl : b1049 = true := hb1049.symm.trans (beq_iff_eq.2 c1050)
    refine VL.va (op_move rfl (ltn rfl)) rfl ?_
    refine VL.letter ((t1036 == 0)) fun b1051 hb1051 => ?_
    refine VL.va (op_cmp rfl rfl (congrArg some hb1051) (ltn rfl)) rfl ?_
    refine VL.va (op_pick rfl rfl (ltn rfl)) rfl ?_
    refine VL.va (op_move rfl (ltn rfl)) rfl ?_
    by_cases c1052 : t1036 = 0
    · rw [if_pos c1052] at h
      obtain rfl : b1051 = true := hb1051.symm.trans (beq_iff_eq.2 c1052)
      refine VL.va (op_move rfl (ltn rfl)) rfl ?_
      refine VL.letter ((t1022 == 1)) fun b1053 hb1053 => ?_
      refine VL.va (op_cmp rfl rfl (congrArg some hb1053) (ltn rfl)) rfl ?_
      refine VL.va (op_pick rfl rfl (ltn rfl)) rfl ?_
      refine VL.va (op_move rfl (ltn rfl)) rfl ?_
      by_cases c1054 : t1022 = 1
      · rw [if_pos c1054] at h
        obtain rfl : b1053 = true := hb1053.symm.trans (beq_iff_eq.2 c1054)
        refine VL.va (op_load 0 6 rfl rfl TI26 rfl (fun h => absurd h (by decide)) (ltn rfl)) rfl ?_
        refine VL.va (op_build (vals := [(0, .int .i64 1), (2, .int .i64 5), (3, .int .i64 1), (4, .int .i64 7)]) (vcs := [(0, [.int .i64 1]), (2, [.int .i64 5]), (3, [.int .i64 1]), (4, [.int .i64 7])]) (cells := [.int .i64 1, .bool false, .int .i64 5, .int .i64 1, .int .i64 7, .bool false]) SI26 rfl (.cons ⟨rfl, (.c rfl)⟩ (.cons ⟨rfl, (.c rfl)⟩ (.cons ⟨rfl, (.c rfl)⟩ (.cons ⟨rfl, (.c rfl)⟩ .nil)))) (by kernel_rfl) (ltn rfl)) rfl ?_
        refine VL.letter ((((t1030 == 1) && ((t1031 == false) && ((t1032 == 5) && ((t1033 == 1) && ((t1034 == 7) && (t1035 == false)))))))) fun b1055 hb1055 => ?_
        refine VL.va (op_eqS rfl rfl EG26 (EQ26 t1030 t1031 t1032 t1033 t1034 t1035 1 false 5 1 7 false) hb1055 (ltn rfl)) rfl ?_
        refine VL.va (op_pick rfl rfl (ltn rfl)) rfl ?_
        refine VL.va (op_assign rfl (ltn rfl)) rfl ?_
        refine VL.done ?_
        refine VN.then ?_
        refine VC.ret ?_
        obtain rfl := Option.some.inj h
        subst hb1055
        exact VR.fn (rs := [.tmp 0]) [] [] [] rfl (.tmp rfl .nil) ⟨rfl, rfl, rfl⟩ trivial rfl (by decide)
      · rw [if_neg c1054] at h
        obtain rfl : b1053 = false := hb1053.symm.trans (beq_eq_false_iff_ne.2 c1054)
        refine VL.un rfl rfl (ltn rfl) ?_
        refine VL.un rfl rfl (ltn rfl) ?_
        refine VL.un rfl rfl (ltn rfl) ?_
        refine VL.va (op_pick rfl rfl (ltn rfl)) rfl ?_
        refine VL.va (op_assign rfl (ltn rfl)) rfl ?_
        refine VL.done ?_
        refine VN.then ?_
        refine VC.ret ?_
        obtain rfl := Option.some.inj h
        exact VR.fn (rs := [.tmp 0]) [] [] [] rfl (.tmp rfl .nil) ⟨rfl, rfl, rfl⟩ trivial rfl (by decide)
    · rw [if_neg c1052] at h
      obtain rfl : b1051 = false := hb1051.symm.trans (beq_eq_false_iff_ne.2 c1052)
      refine VL.un rfl rfl (ltn rfl) ?_
      refine VL.un rfl rfl (ltn rfl) ?_
      refine VL.va (op_pick rfl rfl (ltn rfl)) rfl ?_
      refine VL.va (op_move rfl (ltn rfl)) rfl ?_
      refine VL.un rfl rfl (ltn rfl) ?_
      refine VL.un rfl rfl (ltn rfl) ?_
      refine VL.un rfl rfl (ltn rfl) ?_
      refine VL.va (op_pick rfl rfl (ltn rfl)) rfl ?_
      refine VL.va (op_assign rfl (ltn rfl)) rfl ?_
      refine VL.done ?_
      refine VN.then ?_
      refine VC.ret ?_
      obtain rfl := Option.some.inj h
      exact VR.fn (rs := [.tmp 0]) [] [] [] rfl (.tmp rfl .nil) ⟨rfl, rfl, rfl⟩ trivial rfl (by decide)
  · rw [if_neg c1050] at h
    obtain rfl : b1049 = false := hb1049.symm.trans (beq_eq_false_iff_ne.2 c1050)
    refine VL.un rfl rfl (ltn rfl) ?_
    refine VL.un rfl rfl (ltn rfl) ?_
    refine VL.va (op_pick rfl rfl (ltn rfl)) rfl ?_
    refine VL.va (op_move rfl (ltn rfl)) rfl ?_
    refine VL.un rfl rfl (ltn rfl) ?_
    refine VL.un rfl rfl (ltn rfl) ?_
    refine VL.va (op_pick rfl rfl (ltn rfl)) rfl ?_
    refine VL.va (op_move rfl (ltn rfl)) rfl ?_
    refine VL.un rfl rfl (ltn rfl) ?_
    refine VL.un rfl rfl (ltn rfl) ?_
    refine VL.un rfl rfl (ltn rfl) ?_
    refine VL.va (op_pick rfl rfl (ltn rfl)) rfl ?_
    refine VL.va (op_assign rfl (ltn rfl)) rfl ?_
    refine VL.done ?_
    refine VN.then ?_
    refine VC.ret ?_
    obtain rfl := Option.some.inj h
    exact VR.fn (rs := [.tmp 0]) [] [] [] rfl (.tmp rfl .nil) ⟨rfl, rfl, rfl⟩ trivial rfl (by decide)
set_option maxHeartbeats 4000000 in
set_option maxRecDepth 100000 in
theorem tarrylaw15_like.ok (k : Nat) (l0_0 : List S25) (a0_1 : Int) (l1_0 : List S25) (a1_1 : Int) (v0_0 : Value) (v1_0 : Value) (r1 : Bool) (h : tarrylaw15_like.f k l0_0 a0_1 l1_0 a1_1 = some r1) :
    VCalls Try.prog 15 [.agg #[v0_0, .int .i64 a0_1], .agg #[v1_0, .int .i64 a1_1]] [.row v0_0 6 (l0_0.map enc25), .row v1_0 6 (l1_0.map enc25)] (fun v G own => v = .bool r1 ∧ G = [] ∧ own = []) := by
  refine VCalls.intro Try.func15 rfl (len rfl) fun E hC => ?_
  unfold tarrylaw15_like.f at h
  refine VC.seq ?_
  refine VC.region ?_
  refine VL.sG (o_box rfl (.agg (.f 0 rfl (.c rfl .nil))) (ltn rfl)) rfl ?_
  intro g1122
  refine VL.sG (o_box rfl (.agg (.f 1 rfl (.c rfl .nil))) (ltn rfl)) rfl ?_
  intro g1123
  refine VL.va (op_assign rfl (ltn rfl)) rfl ?_
  refine VL.done ?_
  refine VN.then ?_
  refine VC.seq ?_
  refine VC.seq ?_
  refine VC.region ?_
  refine VL.va (op_fieldAddr FI24_0 rfl (add_at _ _ _) (ltn rfl)) rfl ?_
  refine VL.va (op_load 1 1 rfl rfl TI22 rfl (by decide) (ltn rfl)) rfl ?_
  refine VL.va (op_len (m := l0_0.length) 0 lenm Try.underlying22 rfl rfl (ltn rfl)) rfl ?_
  refine VL.va (op_fieldAddr FI24_0 rfl (add_at _ _ _) (ltn rfl)) rfl ?_
  refine VL.va (op_load 0 1 rfl rfl TI22 rfl (by decide) (ltn rfl)) rfl ?_
  refine VL.va (op_len (m := l1_0.length) 1 lenm Try.underlying22 rfl rfl (ltn rfl)) rfl ?_
  refine VL.letter (((l0_0.length : Int) != (l1_0.length : Int))) fun b1134 hb1134 => ?_
  refine VL.va (op_cmp rfl rfl (congrArg some hb1134) (ltn rfl)) rfl ?_
  refine VL.va (op_move rfl (ltn rfl)) rfl ?_
  by_cases c1135 : (l0_0.length : Int) = (l1_0.length : Int)
  · rw [if_pos c1135] at h
    obtain rfl : b1134 = false := hb1134.symm.trans (bne_eq_false_iff_eq.2 c1135)
    refine VL.va (op_fieldAddr FI24_1 rfl (add_at _ _ _) (ltn rfl)) rfl ?_
    refine VL.va (op_load 1 1 rfl rfl TI3 rfl (by decide) (ltn rfl)) rfl ?_
    refine VL.va (op_fieldAddr FI24_1 rfl (add_at _ _ _) (ltn rfl)) rfl ?_
    refine VL.va (op_load 0 1 rfl rfl TI3 rfl (by decide) (ltn rfl)) rfl ?_
    refine VL.letter ((a0_1 != a1_1)) fun b1136 hb1136 => ?_
    refine VL.va (op_cmp rfl rfl (congrArg some hb1136) (ltn rfl)) rfl ?_
    refine VL.va (op_pick rfl rfl (ltn rfl)) rfl ?_
    refine VL.done ?_
    refine VN.then ?_
    by_cases c1137 : a0_1 = a1_1
    · rw [if_pos c1137] at h
      obtain rfl : b1136 = false := hb1136.symm.trans (bne_eq_false_iff_eq.2 c1137)
      refine VC.cond_f rfl ?_
      refine VC.skip ?_
      refine VN.then ?_
      refine VC.seq ?_
      refine VC.seq ?_
      refine VC.region ?_
      refine VL.va (op_fieldAddr FI24_0 rfl (add_at _ _ _) (ltn rfl)) rfl ?_
      refine VL.va (op_load 1 1 rfl rfl TI22 rfl (by decide) (ltn rfl)) rfl ?_
      refine VL.va (op_len (m := l0_0.length) 0 lenm Try.underlying22 rfl rfl (ltn rfl)) rfl ?_
      refine VL.va (op_move rfl (ltn rfl)) rfl ?_
      refine VL.done ?_
      refine VN.then ?_
      refine VC.block ?_
      refine VC.loop1 (fun (i1191 : Int) => ⟨38, [(2, .pointer (some ⟨g1122, 0, none⟩)), (3, .pointer (some ⟨g1123, 0, none⟩)), (4, .bool false), (22, .int .i64 (l0_0.length : Int)), (23, .int .i64 i1191)], [.row v1_0 6 (l1_0.map enc25), .row v0_0 6 (l0_0.map enc25)], [(g1123, 24, [v1_0, .int .i64 a1_1]), (g1122, 24, [v0_0, .int .i64 a0_1])], []⟩) (fun (k : Nat) (i1191 : Int) => tarrylaw15_like.l1 l0_0 l1_0 k i1191 = some r1) k 0 [0, 1] [] h ⟨rfl, ⟨rfl, rfl, rfl, rfl, rfl, trivial⟩, ⟨⟨1, rfl⟩, ⟨0, rfl⟩, trivial⟩, rfl, by decide, rfl, by decide⟩ (by intros; simp [tarrylaw15_like.l1]) ?_
      intro k ih i1191 h
      simp only [tarrylaw15_like.l1] at h
      refine VC.seq ?_
      refine VC.region ?_
      refine VL.letter (decide (i1191 < (l0_0.length : Int))) fun b1205 hb1205 => ?_
      refine VL.va (op_cmp rfl rfl (congrArg some hb1205) (ltn rfl)) rfl ?_
      refine VL.done ?_
      refine VN.then ?_
      refine VC.seq ?_
      by_cases c1207 : i1191 < (l0_0.length : Int)
      · rw [if_pos c1207] at h
        obtain rfl : b1205 = true := hb1205.symm.trans (decide_eq_true c1207)
        refine VC.cond_t rfl ?_
        refine VC.skip ?_
        refine VN.then ?_
        refine VC.seq ?_
        refine VC.block ?_
        refine VC.seq ?_
        refine VC.region ?_
        refine VL.va (op_move rfl (ltn rfl)) rfl ?_
        refine VL.va (op_assign rfl (ltn rfl)) rfl ?_
        refine VL.done ?_
        refine VN.then ?_
        by_cases c1213 : 0 ≤ i1191
        · rw [if_pos c1213] at h
          replace h := Option.bind_eq_some_iff.1 h
          obtain ⟨x1214, hx1214, h⟩ := h
          replace h := Option.bind_eq_some_iff.1 h
          obtain ⟨x1215, hx1215, h⟩ := h
          refine VC.letter ((!(((x1214.f0 == x1215.f0) && ((x1214.f1 == x1215.f1) && ((x1214.f2 == x1215.f2) && ((x1214.f3 == x1215.f3) && ((x1214.f4 == x1215.f4) && (x1214.f5 == x1215.f5))))))))) fun b1216 hb1216 => ?_
          refine VC.open (m := l0_0.length) 1 lenm rfl (pos_get hx1214) ?_
          rintro ad1142 n1143 rfl
          refine VC.open (m := l1_0.length) 0 lenm rfl (pos_get hx1215) ?_
          rintro ad1145 n1146 rfl
          refine VC.join0 (⟨38, [(2, .pointer (some ⟨g1122, 0, none⟩)), (3, .pointer (some ⟨g1123, 0, none⟩)), (4, .bool false), (5, .int .i64 i1191), (22, .int .i64 (l0_0.length : Int)), (23, .int .i64 i1191), (24, .bool true), (25, .int .i64 i1191), (26, .pointer (some ⟨g1122, 0, none⟩)), (27, (.slice (some ad1142) l0_0.length n1143)), (28, .int .i64 i1191), (30, .agg #[.int .i64 x1214.f0, .bool x1214.f1, .int .i64 x1214.f2, .int .i64 x1214.f3, .int .i64 x1214.f4, .bool x1214.f5]), (31, .pointer (some ⟨g1123, 0, none⟩)), (32, (.slice (some ad1145) l1_0.length n1146)), (33, .int .i64 i1191), (35, .agg #[.int .i64 x1215.f0, .bool x1215.f1, .int .i64 x1215.f2, .int .i64 x1215.f3, .int .i64 x1215.f4, .bool x1215.f5]), (36, .bool b1216)], [.row (.slice (some ad1145) l1_0.length n1146) 6 (l1_0.map enc25), .row (.slice (some ad1142) l0_0.length n1143) 6 (l0_0.map enc25)], [(g1123, 24, [(.slice (some ad1145) l1_0.length n1146), .int .i64 a1_1]), (g1122, 24, [(.slice (some ad1142) l0_0.length n1143), .int .i64 a0_1])], []⟩) (True) ?_ ?_
          · refine VC.draw ⟨0, [], [.row (.slice (some ad1145) l1_0.length n1146) 6 (l1_0.map enc25), .row (.slice (some ad1142) l0_0.length n1143) 6 (l0_0.map enc25)], [(g1123, 24, [(.slice (some ad1145) l1_0.length n1146), .int .i64 a1_1]), (g1122, 24, [(.slice (some ad1142) l0_0.length n1143), .int .i64 a0_1])], []⟩ (by kernel_rfl) rfl (by kernel_rfl) (n := 11) (listed := LB 11 0) ?_
            refine VA.va (i := 0) (listed' := LB 11 1) rfl (op_fieldAddr FI24_0 rfl (add_at _ _ _) (ltn rfl)) rfl (by kernel_rfl) (by kernel_rfl) (by kernel_rfl) (by kernel_rfl) ⟨⟨⟨0, rfl⟩, ⟨1, rfl⟩, trivial⟩, ⟨⟨0, rfl⟩, ⟨1, rfl⟩, trivial⟩, trivial⟩ (fun _ _ _ h => h) ?_
            refine VA.va (i := 1) (listed' := LB 11 3) rfl (op_load 1 1 rfl rfl TI22 rfl (by decide) (ltn rfl)) rfl (by kernel_rfl) (by kernel_rfl) (by kernel_rfl) (by kernel_rfl) ⟨⟨⟨0, rfl⟩, ⟨1, rfl⟩, trivial⟩, ⟨⟨0, rfl⟩, ⟨1, rfl⟩, trivial⟩, trivial⟩ (fun _ _ _ h => h) ?_
            refine VA.va (i := 2) (listed' := LB 11 7) rfl (op_move rfl (ltn rfl)) rfl (by kernel_rfl) (by kernel_rfl) (by kernel_rfl) (by kernel_rfl) ⟨⟨⟨0, rfl⟩, ⟨1, rfl⟩, trivial⟩, ⟨⟨0, rfl⟩, ⟨1, rfl⟩, trivial⟩, trivial⟩ (fun _ _ _ h => h) ?_
            refine VA.va (i := 3) (listed' := LB 11 15) rfl (op_indexAddr Try.underlying22 TI26 rfl rfl c1213 (lt_get c1213 hx1214) rfl (ltn rfl)) rfl (by kernel_rfl) (by kernel_rfl) (by kernel_rfl) (by kernel_rfl) ⟨⟨⟨0, rfl⟩, ⟨1, rfl⟩, trivial⟩, ⟨⟨0, rfl⟩, ⟨1, rfl⟩, trivial⟩, trivial⟩ (fun _ _ _ h => h) ?_
            refine VA.va (i := 4) (listed' := LB 11 31) rfl (op_load_row (o := 0) 1 i1191.toNat 6 rfl rfl (get_map hx1214) TI26 rfl (fun h => absurd h (by decide)) (ltn rfl)) rfl (by kernel_rfl) (by kernel_rfl) (by kernel_rfl) (by kernel_rfl) ⟨⟨⟨0, rfl⟩, ⟨1, rfl⟩, trivial⟩, ⟨⟨0, rfl⟩, ⟨1, rfl⟩, trivial⟩, trivial⟩ (fun _ _ _ h => h) ?_
            refine VA.va (i := 5) (listed' := LB 11 63) rfl (op_fieldAddr FI24_0 rfl (add_at _ _ _) (ltn rfl)) rfl (by kernel_rfl) (by kernel_rfl) (by kernel_rfl) (by kernel_rfl) ⟨⟨⟨0, rfl⟩, ⟨1, rfl⟩, trivial⟩, ⟨⟨0, rfl⟩, ⟨1, rfl⟩, trivial⟩, trivial⟩ (fun _ _ _ h => h) ?_
            refine VA.va (i := 6) (listed' := LB 11 127) rfl (op_load 0 1 rfl rfl TI22 rfl (by decide) (ltn rfl)) rfl (by kernel_rfl) (by kernel_rfl) (by kernel_rfl) (by kernel_rfl) ⟨⟨⟨0, rfl⟩, ⟨1, rfl⟩, trivial⟩, ⟨⟨0, rfl⟩, ⟨1, rfl⟩, trivial⟩, trivial⟩ (fun _ _ _ h => h) ?_
            refine VA.va (i := 7) (listed' := LB 11 255) rfl (op_move rfl (ltn rfl)) rfl (by kernel_rfl) (by kernel_rfl) (by kernel_rfl) (by kernel_rfl) ⟨⟨⟨0, rfl⟩, ⟨1, rfl⟩, trivial⟩, ⟨⟨0, rfl⟩, ⟨1, rfl⟩, trivial⟩, trivial⟩ (fun _ _ _ h => h) ?_
            refine VA.va (i := 8) (listed' := LB 11 511) rfl (op_indexAddr Try.underlying22 TI26 rfl rfl c1213 (lt_get c1213 hx1215) rfl (ltn rfl)) rfl (by kernel_rfl) (by kernel_rfl) (by kernel_rfl) (by kernel_rfl) ⟨⟨⟨0, rfl⟩, ⟨1, rfl⟩, trivial⟩, ⟨⟨0, rfl⟩, ⟨1, rfl⟩, trivial⟩, trivial⟩ (fun _ _ _ h => h) ?_
            refine VA.va (i := 9) (listed' := LB 11 1023) rfl (op_load_row (o := 0) 0 i1191.toNat 6 rfl rfl (get_map hx1215) TI26 rfl (fun h => absurd h (by decide)) (ltn rfl)) rfl (by kernel_rfl) (by kernel_rfl) (by kernel_rfl) (by kernel_rfl) ⟨⟨⟨0, rfl⟩, ⟨1, rfl⟩, trivial⟩, ⟨⟨0, rfl⟩, ⟨1, rfl⟩, trivial⟩, trivial⟩ (fun _ _ _ h => h) ?_
            refine VA.va (i := 10) (listed' := LB 11 2047) rfl (op_neS rfl rfl EG26 (EQ26 x1214.f0 x1214.f1 x1214.f2 x1214.f3 x1214.f4 x1214.f5 x1215.f0 x1215.f1 x1215.f2 x1215.f3 x1215.f4 x1215.f5) hb1216 (ltn rfl)) rfl (by kernel_rfl) (by kernel_rfl) (by kernel_rfl) (by kernel_rfl) ⟨⟨⟨0, rfl⟩, ⟨1, rfl⟩, trivial⟩, ⟨⟨0, rfl⟩, ⟨1, rfl⟩, trivial⟩, trivial⟩ (fun _ _ _ h => h) ?_
            refine VA.done (by kernel_rfl) ?_
            exact VN.meet0  [0, 1] [] trivial ⟨rfl, ⟨rfl, rfl, rfl, rfl, rfl, rfl, rfl, rfl, rfl, rfl, rfl, rfl, rfl, rfl, rfl, rfl, rfl, trivial⟩, ⟨⟨0, rfl⟩, ⟨1, rfl⟩, trivial⟩, rfl, by decide, rfl, by decide⟩
          intro _
          by_cases c1217 : (((x1214.f0 == x1215.f0) && ((x1214.f1 == x1215.f1) && ((x1214.f2 == x1215.f2) && ((x1214.f3 == x1215.f3) && ((x1214.f4 == x1215.f4) && (x1214.f5 == x1215.f5))))))) = true
          · rw [if_pos c1217] at h
            obtain rfl : b1216 = false := hb1216.symm.trans (not_t c1217)
            refine VC.cond_f rfl ?_
            refine VC.skip ?_
            refine VN.block ?_
            refine VN.then ?_
            refine VC.region ?_
            refine VL.va (op_ari64 rfl rfl rfl (ltn rfl)) rfl ?_
            refine VL.va (op_move rfl (ltn rfl)) rfl ?_
            refine VL.done ?_
            refine VN.again [0, 1] [] (ih (wrap64 (i1191 + 1)) h) ⟨rfl, ⟨rfl, rfl, rfl, rfl, rfl, trivial⟩, ⟨⟨0, rfl⟩, ⟨1, rfl⟩, trivial⟩, rfl, by decide, rfl, by decide⟩
          · rw [if_neg c1217] at h
            obtain rfl : b1216 = true := hb1216.symm.trans (not_f c1217)
            refine VC.cond_t rfl ?_
            refine VC.seq ?_
            refine VC.region ?_
            refine VL.va (op_assign rfl (ltn rfl)) rfl ?_
            refine VL.done ?_
            refine VN.then ?_
            refine VC.ret ?_
            refine VR.block ?_
            refine VR.then ?_
            refine VR.then ?_
            refine VR.block ?_
            refine VR.then ?_
            obtain rfl := Option.some.inj h
            exact VR.fn (rs := [.tmp 4]) [] [] [] rfl (.tmp rfl .nil) ⟨rfl, rfl, rfl⟩ trivial rfl (by decide)
        · rw [if_neg c1213] at h; cases h
      · rw [if_neg c1207] at h
        obtain rfl : b1205 = false := hb1205.symm.trans (decide_eq_false c1207)
        refine VC.cond_f rfl ?_
        refine VC.exit ?_
        refine VX.then ?_
        refine VX.then ?_
        refine VX.hit ?_
        refine VN.then ?_
        refine VC.seq ?_
        refine VC.region ?_
        refine VL.va (op_assign rfl (ltn rfl)) rfl ?_
        refine VL.done ?_
        refine VN.then ?_
        refine VC.ret ?_
        obtain rfl := Option.some.inj h
        exact VR.fn (rs := [.tmp 4]) [] [] [] rfl (.tmp rfl .nil) ⟨rfl, rfl, rfl⟩ trivial rfl (by decide)
    · rw [if_neg c1137] at h
      obtain rfl : b1136 = true := hb1136.symm.trans (bne_iff_ne.2 c1137)
      refine VC.cond_t rfl ?_
      refine VC.seq ?_
      refine VC.region ?_
      refine VL.va (op_assign rfl (ltn rfl)) rfl ?_
      refine VL.done ?_
      refine VN.then ?_
      refine VC.ret ?_
      refine VR.then ?_
      obtain rfl := Option.some.inj h
      exact VR.fn (rs := [.tmp 4]) [] [] [] rfl (.tmp rfl .nil) ⟨rfl, rfl, rfl⟩ trivial rfl (by decide)
  · rw [if_neg c1135] at h
    obtain rfl : b1134 = true := hb1134.symm.trans (bne_iff_ne.2 c1135)
    refine VL.un rfl rfl (ltn rfl) ?_
    refine VL.un rfl rfl (ltn rfl) ?_
    refine VL.un rfl rfl (ltn rfl) ?_
    refine VL.un rfl rfl (ltn rfl) ?_
    refine VL.un rfl rfl (ltn rfl) ?_
    refine VL.va (op_pick rfl rfl (ltn rfl)) rfl ?_
    refine VL.done ?_
    refine VN.then ?_
    refine VC.cond_t rfl ?_
    refine VC.seq ?_
    refine VC.region ?_
    refine VL.va (op_assign rfl (ltn rfl)) rfl ?_
    refine VL.done ?_
    refine VN.then ?_
    refine VC.ret ?_
    refine VR.then ?_
    obtain rfl := Option.some.inj h
    exact VR.fn (rs := [.tmp 4]) [] [] [] rfl (.tmp rfl .nil) ⟨rfl, rfl, rfl⟩ trivial rfl (by decide)

end Go.Proofs.Ytjghhdnecilcfaa.PNetGoes
