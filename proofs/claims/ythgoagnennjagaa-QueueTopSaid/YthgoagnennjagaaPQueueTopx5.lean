/- Written by a program of this repo: what the program's functions do, each as a Lean function, shown of the loaded code; or a statement's row over that; no condition of its own. -/
import Derived.Test.YthgoagnennjagaaPQueueTopx4
namespace Go.Proofs.Ythgoagnennjagaa.PQueueTop
open Go Go.RowKit Go.Proofs.YthgoagnennjagaaV
set_option linter.unusedVariables false
set_option linter.unusedSimpArgs false

set_option maxHeartbeats 4000000 in
set_option maxRecDepth 100000 in
theorem tarrylaw06_alive.ok (k : Nat)   (r1 : Bool) (h : tarrylaw06_alive.f k = some r1) :
    VCalls Try.prog 14 [] [] (fun v G own => v = .bool r1 ∧ G = [] ∧ own = []) := by
  refine VCalls.intro Try.func14 rfl (len rfl) fun E hC => ?_
  unfold tarrylaw06_alive.f at h
  refine VC.seq ?_
  refine VC.region ?_
  refine VL.va (op_assign rfl (ltn rfl)) rfl ?_
  refine VL.done ?_
  refine VN.then ?_
  refine VC.seq ?_
  refine VC.region ?_
  refine VL.va (op_build (vals := [(0, .int .i64 1), (1, .int .i64 1), (2, .int .i64 1)]) (vcs := [(0, [.int .i64 1]), (1, [.int .i64 1]), (2, [.int .i64 1])]) (cells := [.int .i64 1, .int .i64 1, .int .i64 1]) SI24 rfl (.cons ⟨rfl, (.c rfl)⟩ (.cons ⟨rfl, (.c rfl)⟩ (.cons ⟨rfl, (.c rfl)⟩ .nil))) (by kernel_rfl) (ltn rfl)) rfl ?_
  refine VL.va (op_build (vals := [(0, .int .i64 0), (1, .int .i64 9), (2, .int .i64 2)]) (vcs := [(0, [.int .i64 0]), (1, [.int .i64 9]), (2, [.int .i64 2])]) (cells := [.int .i64 0, .int .i64 9, .int .i64 2]) SI24 rfl (.cons ⟨rfl, (.c rfl)⟩ (.cons ⟨rfl, (.c rfl)⟩ (.cons ⟨rfl, (.c rfl)⟩ .nil))) (by kernel_rfl) (ltn rfl)) rfl ?_
  refine VL.sG (o_buildSlice (vals := [(0, .agg #[.int .i64 1, .int .i64 1, .int .i64 1]), (1, .agg #[.int .i64 0, .int .i64 9, .int .i64 2])]) (cells := #[.int .i64 1, .int .i64 1, .int .i64 1, .int .i64 0, .int .i64 9, .int .i64 2]) (es := List.map enc23 ([(⟨1, 1, 1⟩ : S23), (⟨0, 9, 2⟩ : S23)] : List S23)) Try.underlying22 TI24 Z24 rfl (by decide) (by decide) (by kernel_rfl) (by kernel_rfl) rfl (flat_map enc23_ok _) (ltn rfl)) rfl ?_
  intro v1034
  replace h := Option.bind_eq_some_iff.1 h
  obtain ⟨⟨r67520, t67521⟩, hA67522, h⟩ := h
  dsimp only at h
  refine VL.sC (o_call_b0 FO8 (queue_Make.ok k ([(⟨1, 1, 1⟩ : S23), (⟨0, 9, 2⟩ : S23)] : List S23) v1034 r67520 t67521 hA67522) rfl rfl (ltn rfl) (All_of (.cons (.inr (.inl ⟨_, List.mem_of_getElem? (i := 0) rfl, rfl⟩)) .nil)) (by rintro _ _ _ ⟨v67524, rfl, rfl, rfl⟩; rfl)) rfl ?_
  rintro _ _ _ ⟨v67524, rfl, rfl, rfl⟩
  refine VL.va (op_move rfl (ltn rfl)) rfl ?_
  refine VL.va (op_extract rfl rfl (ltn rfl)) rfl ?_
  refine VL.va (op_extract rfl rfl (ltn rfl)) rfl ?_
  refine VL.va (op_assign rfl (ltn rfl)) rfl ?_
  refine VL.va (op_assign rfl (ltn rfl)) rfl ?_
  refine VL.done ?_
  refine VN.then ?_
  refine VC.seq ?_
  refine VC.region ?_
  refine VL.va (op_move rfl (ltn rfl)) rfl ?_
  replace h := Option.bind_eq_some_iff.1 h
  obtain ⟨⟨r112064, t112065, t112066, t112067, t112068⟩, hA112069, h⟩ := h
  dsimp only at h
  refine VL.sC (o_call_b0 FO19 (queue_Pop.ok k r67520 v67524 r112064 t112065 t112066 t112067 t112068 hA112069) rfl rfl (ltn rfl) (All_of (.cons (.inr (.inl ⟨_, List.mem_of_getElem? (i := 0) rfl, rfl⟩)) .nil)) (by rintro _ _ _ ⟨v112071, rfl, rfl, rfl⟩; rfl)) rfl ?_
  rintro _ _ _ ⟨v112071, rfl, rfl, rfl⟩
  refine VL.va (op_move rfl (ltn rfl)) rfl ?_
  refine VL.va (op_extract rfl rfl (ltn rfl)) rfl ?_
  refine VL.va (op_extract rfl rfl (ltn rfl)) rfl ?_
  refine VL.va (op_extract rfl rfl (ltn rfl)) rfl ?_
  refine VL.sG (o_alloc Z24 ZL24 (ltn rfl)) rfl ?_
  intro g112072
  refine VL.va (op_assign rfl (ltn rfl)) rfl ?_
  refine VL.step1 (o_store 0 3 rfl rfl rfl TI24 (.agg (.of rfl)) rfl (len rfl)) rfl ?_
  refine VL.va (op_assign rfl (ltn rfl)) rfl ?_
  refine VL.done ?_
  refine VN.then ?_
  refine VC.seq ?_
  refine VC.region ?_
  refine VL.va (op_move rfl (ltn rfl)) rfl ?_
  refine VL.letter ((t67521 == 0)) fun b112080 hb112080 => ?_
  refine VL.va (op_cmp rfl rfl (congrArg some hb112080) (ltn rfl)) rfl ?_
  refine VL.va (op_move rfl (ltn rfl)) rfl ?_
  by_cases c112081 : t67521 = 0
  · rw [if_pos c112081] at h
    obtain rfl : b112080 = true := hb112080.symm.trans (beq_iff_eq.2 c112081)
    refine VL.va (op_move rfl (ltn rfl)) rfl ?_
    refine VL.letter ((t112068 == 0)) fun b112082 hb112082 => ?_
    refine VL.va (op_cmp rfl rfl (congrArg some hb112082) (ltn rfl)) rfl ?_
    refine VL.va (op_pick rfl rfl (ltn rfl)) rfl ?_
    refine VL.va (op_move rfl (ltn rfl)) rfl ?_
    by_cases c112083 : t112068 = 0
    · rw [if_pos c112083] at h
      obtain rfl : b112082 = true := hb112082.symm.trans (beq_iff_eq.2 c112083)
      refine VL.va (op_fieldAddr FI24_2 rfl (add_at _ _ _) (ltn rfl)) rfl ?_
      refine VL.va (op_load 0 1 rfl rfl TI3 rfl (by decide) (ltn rfl)) rfl ?_
      refine VL.letter ((t112067 == 2)) fun b112084 hb112084 => ?_
      refine VL.va (op_cmp rfl rfl (congrArg some hb112084) (ltn rfl)) rfl ?_
      refine VL.va (op_pick rfl rfl (ltn rfl)) rfl ?_
      refine VL.va (op_move rfl (ltn rfl)) rfl ?_
      by_cases c112085 : t112067 = 2
      · rw [if_pos c112085] at h
        obtain rfl : b112084 = true := hb112084.symm.trans (beq_iff_eq.2 c112085)
        refine VL.va (op_move rfl (ltn rfl)) rfl ?_
        refine VL.va (op_len_own (m := r112064.length) 0 lenm Try.underlying22 rfl rfl (ltn rfl)) rfl ?_
        refine VL.letter (((r112064.length : Int) == 1)) fun b112086 hb112086 => ?_
        refine VL.va (op_cmp rfl rfl (congrArg some hb112086) (ltn rfl)) rfl ?_
        refine VL.va (op_pick rfl rfl (ltn rfl)) rfl ?_
        refine VL.va (op_assign rfl (ltn rfl)) rfl ?_
        refine VL.done ?_
        refine VN.then ?_
        refine VC.ret ?_
        obtain rfl := Option.some.inj h
        subst hb112086
        exact VR.fn (rs := [.tmp 0]) [] [] [] rfl (.tmp rfl .nil) ⟨rfl, rfl, rfl⟩ trivial rfl (by decide)
      · rw [if_neg c112085] at h
        obtain rfl : b112084 = false := hb112084.symm.trans (beq_eq_false_iff_ne.2 c112085)
        refine VL.un rfl rfl (ltn rfl) ?_
        refine VL.un rfl rfl (ltn rfl) ?_
        refine VL.un rfl rfl (ltn rfl) ?_
        refine VL.va (op_pick rfl rfl (ltn rfl)) rfl ?_
        refine VL.va (op_assign rfl (ltn rfl)) rfl ?_
        refine VL.done ?_
        refine VN.then ?_
        refine VC.ret ?_
        obtain rfl := Option.some.inj h
        exact VR.fn (rs := [.tmp 0]) [] [] [] rfl (.tmp rfl .nil) ⟨rfl, rfl, rfl⟩ trivial rfl (by decide)
    · rw [if_neg c112083] at h
      obtain rfl : b112082 = false := hb112082.symm.trans (beq_eq_false_iff_ne.2 c112083)
      refine VL.un rfl rfl (ltn rfl) ?_
      refine VL.un rfl rfl (ltn rfl) ?_
      refine VL.un rfl rfl (ltn rfl) ?_
      refine VL.va (op_pick rfl rfl (ltn rfl)) rfl ?_
      refine VL.va (op_move rfl (ltn rfl)) rfl ?_
      refine VL.un rfl rfl (ltn rfl) ?_
      refine VL.un rfl rfl (ltn rfl) ?_
      refine VL.un rfl rfl (ltn rfl) ?_
      refine VL.va (op_pick rfl rfl (ltn rfl)) rfl ?_
      refine VL.va (op_assign rfl (ltn rfl)) rfl ?_
      refine VL.done ?_
      refine VN.then ?_
      refine VC.ret ?_
      obtain rfl := Option.some.inj h
      exact VR.fn (rs := [.tmp 0]) [] [] [] rfl (.tmp rfl .nil) ⟨rfl, rfl, rfl⟩ trivial rfl (by decide)
  · rw [if_neg c112081] at h
    obtain rfl : b112080 = false := hb112080.symm.trans (beq_eq_false_iff_ne.2 c112081)
    refine VL.un rfl rfl (ltn rfl) ?_
    refine VL.un rfl rfl (ltn rfl) ?_
    refine VL.va (op_pick rfl rfl (ltn rfl)) rfl ?_
    refine VL.va (op_move rfl (ltn rfl)) rfl ?_
    refine VL.un rfl rfl (ltn rfl) ?_
    refine VL.un rfl rfl (ltn rfl) ?_
    refine VL.un rfl rfl (ltn rfl) ?_
    refine VL.va (op_pick rfl rfl (ltn rfl)) rfl ?_
    refine VL.va (op_move rfl (ltn rfl)) rfl ?_
    refine VL.un rfl rfl (ltn rfl) ?_
    refine VL.un rfl rfl (ltn rfl) ?_
    refine VL.un rfl rfl (ltn rfl) ?_
    refine VL.va (op_pick rfl rfl (ltn rfl)) rfl ?_
    refine VL.va (op_assign rfl (ltn rfl)) rfl ?_
    refine VL.done ?_
    refine VN.then ?_
    refine VC.ret ?_
    obtain rfl := Option.some.inj h
    exact VR.fn (rs := [.tmp 0]) [] [] [] rfl (.tmp rfl .nil) ⟨rfl, rfl, rfl⟩ trivial rfl (by decide)
set_option maxHeartbeats 4000000 in
set_option maxRecDepth 100000 in
theorem tarrylaw06_QueueTop.ok (k : Nat) (l0 : List S23) (a1_0 : Int) (a1_1 : Int) (a1_2 : Int) (v0 : Value) (r1 : Bool) (h : tarrylaw06_QueueTop.f k l0 a1_0 a1_1 a1_2 = some r1) :
    VCalls Try.prog 5 [v0, .agg #[.int .i64 a1_0, .int .i64 a1_1, .int .i64 a1_2]] [.row v0 3 (l0.map enc23)] (fun v G own => v = .bool r1 ∧ G = [] ∧ own = []) := by
  refine VCalls.intro Try.func5 rfl (len rfl) fun E hC => ?_
  unfold tarrylaw06_QueueTop.f at h
  refine VC.seq ?_
  refine VC.region ?_
  refine VL.sG (o_box rfl (.agg (.of rfl)) (ltn rfl)) rfl ?_
  intro g2
  refine VL.va (op_assign rfl (ltn rfl)) rfl ?_
  refine VL.done ?_
  refine VN.then ?_
  refine VC.seq ?_
  refine VC.region ?_
  refine VL.va (op_move rfl (ltn rfl)) rfl ?_
  refine VL.va (op_move rfl (ltn rfl)) rfl ?_
  refine VL.va (op_len (m := l0.length) 0 lenm Try.underlying22 rfl rfl (ltn rfl)) rfl ?_
  refine VL.va (op_min rfl rfl (ltn rfl)) rfl ?_
  by_cases c3 : 0 ≤ mn (l0.length : Int) 60
  · rw [if_pos c3] at h
    by_cases c4 : (mn (l0.length : Int) 60) ≤ (l0.length : Int)
    · rw [if_pos c4] at h
      refine VL.sG (o_slice (m := l0.length) 0 0 ((mn (l0.length : Int) 60).toNat) lenm cutm Try.underlying22 TI24 rfl rfl ⟨rfl, ⟨_, _, rfl, c3, rfl⟩, by omega, by omega⟩ (ltn rfl)) rfl ?_
      intro v6
      refine VL.va (op_assign rfl (ltn rfl)) rfl ?_
      refine VL.done ?_
      refine VN.then ?_
      refine VC.seq ?_
      refine VC.region ?_
      refine VL.va (op_move rfl (ltn rfl)) rfl ?_
      refine VL.va (op_load 0 3 rfl rfl TI24 rfl (fun h => absurd h (by decide)) (ltn rfl)) rfl ?_
      replace h := Option.bind_eq_some_iff.1 h
      obtain ⟨⟨r1026, t1027⟩, hA1028, h⟩ := h
      dsimp only at h
      refine VL.sC (o_call0 FO18 (queue_Push.ok k ((l0.take ((mn (l0.length : Int) 60).toNat)).drop 0) a1_0 a1_1 a1_2 v6 r1026 t1027 hA1028) rfl rfl (ltn rfl) (All_of (.cons (List.mem_of_getElem? (i := 0) rfl) .nil))) rfl ?_
      rintro _ _ _ ⟨v1030, rfl, rfl, rfl⟩
      refine VL.va (op_move rfl (ltn rfl)) rfl ?_
      refine VL.va (op_extract rfl rfl (ltn rfl)) rfl ?_
      refine VL.va (op_extract rfl rfl (ltn rfl)) rfl ?_
      refine VL.va (op_assign rfl (ltn rfl)) rfl ?_
      refine VL.va (op_assign rfl (ltn rfl)) rfl ?_
      refine VL.done ?_
      refine VN.then ?_
      refine VC.seq ?_
      refine VC.seq ?_
      refine VC.region ?_
      refine VL.va (op_move rfl (ltn rfl)) rfl ?_
      refine VL.letter ((t1027 != 0)) fun b112095 hb112095 => ?_
      refine VL.va (op_cmp rfl rfl (congrArg some hb112095) (ltn rfl)) rfl ?_
      refine VL.done ?_
      refine VN.then ?_
      by_cases c112096 : t1027 = 0
      · rw [if_pos c112096] at h
        obtain rfl : b112095 = false := hb112095.symm.trans (bne_eq_false_iff_eq.2 c112096)
        refine VC.cond_f rfl ?_
        refine VC.skip ?_
        refine VN.then ?_
        refine VC.seq ?_
        refine VC.region ?_
        refine VL.va (op_move rfl (ltn rfl)) rfl ?_
        replace h := Option.bind_eq_some_iff.1 h
        obtain ⟨⟨r112097, t112098, t112099, t112100, t112101⟩, hA112102, h⟩ := h
        dsimp only at h
        refine VL.sC (o_call_b0 FO19 (queue_Pop.ok k r1026 v1030 r112097 t112098 t112099 t112100 t112101 hA112102) rfl rfl (ltn rfl) (All_of (.cons (.inr (.inl ⟨_, List.mem_of_getElem? (i := 0) rfl, rfl⟩)) .nil)) (by rintro _ _ _ ⟨v112104, rfl, rfl, rfl⟩; rfl)) rfl ?_
        rintro _ _ _ ⟨v112104, rfl, rfl, rfl⟩
        refine VL.va (op_move rfl (ltn rfl)) rfl ?_
        refine VL.va (op_extract rfl rfl (ltn rfl)) rfl ?_
        refine VL.va (op_extract rfl rfl (ltn rfl)) rfl ?_
        refine VL.va (op_extract rfl rfl (ltn rfl)) rfl ?_
        refine VL.sG (o_alloc Z24 ZL24 (ltn rfl)) rfl ?_
        intro g112105
        refine VL.va (op_assign rfl (ltn rfl)) rfl ?_
        refine VL.step1 (o_store 0 3 rfl rfl rfl TI24 (.agg (.of rfl)) rfl (len rfl)) rfl ?_
        refine VL.va (op_assign rfl (ltn rfl)) rfl ?_
        refine VL.done ?_
        refine VN.then ?_
        refine VC.seq ?_
        refine VC.seq ?_
        refine VC.region ?_
        refine VL.va (op_move rfl (ltn rfl)) rfl ?_
        refine VL.letter ((t112101 != 0)) fun b112127 hb112127 => ?_
        refine VL.va (op_cmp rfl rfl (congrArg some hb112127) (ltn rfl)) rfl ?_
        refine VL.va (op_move rfl (ltn rfl)) rfl ?_
        by_cases c112128 : t112101 = 0
        · rw [if_pos c112128] at h
          obtain rfl : b112127 = false := hb112127.symm.trans (bne_eq_false_iff_eq.2 c112128)
          refine VL.va (op_move rfl (ltn rfl)) rfl ?_
          refine VL.va (op_len_own (m := r112097.length) 0 lenm Try.underlying22 rfl rfl (ltn rfl)) rfl ?_
          refine VL.va (op_move rfl (ltn rfl)) rfl ?_
          refine VL.va (op_len (m := ((l0.take ((mn (l0.length : Int) 60).toNat)).drop 0).length) 0 lenm Try.underlying22 rfl rfl (ltn rfl)) rfl ?_
          refine VL.letter (((r112097.length : Int) != (((l0.take ((mn (l0.length : Int) 60).toNat)).drop 0).length : Int))) fun b112129 hb112129 => ?_
          refine VL.va (op_cmp rfl rfl (congrArg some hb112129) (ltn rfl)) rfl ?_
          refine VL.va (op_pick rfl rfl (ltn rfl)) rfl ?_
          refine VL.va (op_move rfl (ltn rfl)) rfl ?_
          by_cases c112130 : (r112097.length : Int) = (((l0.take ((mn (l0.length : Int) 60).toNat)).drop 0).length : Int)
          · rw [if_pos c112130] at h
            obtain rfl : b112129 = false := hb112129.symm.trans (bne_eq_false_iff_eq.2 c112130)
            replace h := Option.bind_eq_some_iff.1 h
            obtain ⟨t112131, hA112132, h⟩ := h
            refine VL.sC (o_call0 FO14 (tarrylaw06_alive.ok k t112131 hA112132) rfl rfl (ltn rfl) (All_of .nil)) rfl ?_
            rintro _ _ _ ⟨rfl, rfl, rfl⟩
            by_cases c112133 : t112131 = true
            · rw [if_pos c112133] at h
              obtain rfl := c112133
              refine VL.va (op_not rfl rfl (ltn rfl)) rfl ?_
              refine VL.va (op_pick rfl rfl (ltn rfl)) rfl ?_
              refine VL.done ?_
              refine VN.then ?_
              refine VC.cond_f rfl ?_
              refine VC.skip ?_
              refine VN.then ?_
              refine VC.seq ?_
              refine VC.letter (((((l0.take ((mn (l0.length : Int) 60).toNat)).drop 0).length : Int) == 0)) fun b112144 hb112144 => ?_
              by_cases c112145 : (((l0.take ((mn (l0.length : Int) 60).toNat)).drop 0).length : Int) = 0
              · rw [if_pos c112145] at h
                obtain rfl : b112144 = true := hb112144.symm.trans (beq_iff_eq.2 c112145)
                refine VC.join0 (⟨67, [(0, v6), (3, .pointer (some ⟨g2, 0, none⟩)), (4, .bool false), (8, .pointer (some ⟨g112105, 0, none⟩)), (58, .bool true)], [.row v6 3 (((l0.take ((mn (l0.length : Int) 60).toNat)).drop 0).map enc23)], [(g112105, 24, [.int .i64 t112098, .int .i64 t112099, .int .i64 t112100]), (g2, 24, [.int .i64 a1_0, .int .i64 a1_1, .int .i64 a1_2])], []⟩) (True) ?_ ?_
                · refine VC.draw ⟨0, [], [.row v6 3 (((l0.take ((mn (l0.length : Int) 60).toNat)).drop 0).map enc23)], [], []⟩ (by kernel_rfl) rfl (by kernel_rfl) (n := 11) (listed := LB 11 0) ?_
                  refine VA.va (i := 0) (listed' := LB 11 1) rfl (op_move rfl (ltn rfl)) rfl (by kernel_rfl) (by kernel_rfl) (by kernel_rfl) (by kernel_rfl) ⟨⟨⟨0, rfl⟩, trivial⟩, trivial, trivial⟩ (fun _ _ _ h => h) ?_
                  refine VA.va (i := 1) (listed' := LB 11 3) rfl (op_len (m := ((l0.take ((mn (l0.length : Int) 60).toNat)).drop 0).length) 0 lenm Try.underlying22 rfl rfl (ltn rfl)) rfl (by kernel_rfl) (by kernel_rfl) (by kernel_rfl) (by kernel_rfl) ⟨⟨⟨0, rfl⟩, trivial⟩, trivial, trivial⟩ (fun _ _ _ h => h) ?_
                  refine VA.va (i := 2) (listed' := LB 11 7) rfl (op_cmp rfl rfl (congrArg some hb112144) (ltn rfl)) rfl (by kernel_rfl) (by kernel_rfl) (by kernel_rfl) (by kernel_rfl) ⟨⟨⟨0, rfl⟩, trivial⟩, trivial, trivial⟩ (fun _ _ _ h => h) ?_
                  refine VA.va (i := 3) (listed' := LB 11 15) rfl (op_move rfl (ltn rfl)) rfl (by kernel_rfl) (by kernel_rfl) (by kernel_rfl) (by kernel_rfl) ⟨⟨⟨0, rfl⟩, trivial⟩, trivial, trivial⟩ (fun _ _ _ h => h) ?_
                  refine VA.un (i := 4) (listed' := LB 11 31) rfl rfl rfl (ltn rfl) (by kernel_rfl) (by kernel_rfl) (by kernel_rfl) (by kernel_rfl) ⟨⟨⟨0, rfl⟩, trivial⟩, trivial, trivial⟩ (fun _ _ _ h => h) ?_
                  refine VA.un (i := 5) (listed' := LB 11 63) rfl rfl rfl (ltn rfl) (by kernel_rfl) (by kernel_rfl) (by kernel_rfl) (by kernel_rfl) ⟨⟨⟨0, rfl⟩, trivial⟩, trivial, trivial⟩ (fun _ _ _ h => h) ?_
                  refine VA.un (i := 6) (listed' := LB 11 127) rfl rfl rfl (ltn rfl) (by kernel_rfl) (by kernel_rfl) (by kernel_rfl) (by kernel_rfl) ⟨⟨⟨0, rfl⟩, trivial⟩, trivial, trivial⟩ (fun _ _ _ h => h) ?_
                  refine VA.un (i := 7) (listed' := LB 11 255) rfl rfl rfl (ltn rfl) (by kernel_rfl) (by kernel_rfl) (by kernel_rfl) (by kernel_rfl) ⟨⟨⟨0, rfl⟩, trivial⟩, trivial, trivial⟩ (fun _ _ _ h => h) ?_
                  refine VA.un (i := 8) (listed' := LB 11 511) rfl rfl rfl (ltn rfl) (by kernel_rfl) (by kernel_rfl) (by kernel_rfl) (by kernel_rfl) ⟨⟨⟨0, rfl⟩, trivial⟩, trivial, trivial⟩ (fun _ _ _ h => h) ?_
                  refine VA.un (i := 9) (listed' := LB 11 1023) rfl rfl rfl (ltn rfl) (by kernel_rfl) (by kernel_rfl) (by kernel_rfl) (by kernel_rfl) ⟨⟨⟨0, rfl⟩, trivial⟩, trivial, trivial⟩ (fun _ _ _ h => h) ?_
                  refine VA.va (i := 10) (listed' := LB 11 2047) rfl (op_pick rfl rfl (ltn rfl)) rfl (by kernel_rfl) (by kernel_rfl) (by kernel_rfl) (by kernel_rfl) ⟨⟨⟨0, rfl⟩, trivial⟩, trivial, trivial⟩ (fun _ _ _ h => h) ?_
                  refine VA.done (by kernel_rfl) ?_
                  exact VN.meet0  [0, 1] [] trivial ⟨rfl, ⟨rfl, rfl, rfl, rfl, rfl, trivial⟩, ⟨⟨0, rfl⟩, trivial⟩, rfl, by decide, rfl, by decide⟩
                intro _
                refine VC.cond_t rfl ?_
                refine VC.seq ?_
                refine VC.region ?_
                refine VL.va (op_load 0 3 rfl rfl TI24 rfl (fun h => absurd h (by decide)) (ltn rfl)) rfl ?_
                refine VL.va (op_load 1 3 rfl rfl TI24 rfl (fun h => absurd h (by decide)) (ltn rfl)) rfl ?_
                refine VL.letter ((((t112098 == a1_0) && ((t112099 == a1_1) && (t112100 == a1_2))))) fun b112146 hb112146 => ?_
                refine VL.va (op_eqS rfl rfl EG24 (EQ24 t112098 t112099 t112100 a1_0 a1_1 a1_2) hb112146 (ltn rfl)) rfl ?_
                refine VL.va (op_assign rfl (ltn rfl)) rfl ?_
                refine VL.done ?_
                refine VN.then ?_
                refine VC.ret ?_
                refine VR.then ?_
                obtain rfl := Option.some.inj h
                subst hb112146
                exact VR.fn (rs := [.tmp 4]) [] [] [] rfl (.tmp rfl .nil) ⟨rfl, rfl, rfl⟩ trivial rfl (by decide)
              · rw [if_neg c112145] at h
                obtain rfl : b112144 = false := hb112144.symm.trans (beq_eq_false_iff_ne.2 c112145)
                replace h := Option.bind_eq_some_iff.1 h
                obtain ⟨x112147, hx112147, h⟩ := h
                replace h := Option.bind_eq_some_iff.1 h
                obtain ⟨t112148, hA112149, h⟩ := h
                by_cases c112150 : t112148 = true
                · rw [if_pos c112150] at h
                  obtain rfl := c112150
                  refine VC.open (m := ((l0.take ((mn (l0.length : Int) 60).toNat)).drop 0).length) 0 lenm rfl (pos_get hx112147) ?_
                  rintro ad112138 n112139 rfl
                  refine VC.join0 (⟨67, [(0, (.slice (some ad112138) ((l0.take ((mn (l0.length : Int) 60).toNat)).drop 0).length n112139)), (3, .pointer (some ⟨g2, 0, none⟩)), (4, .bool false), (8, .pointer (some ⟨g112105, 0, none⟩)), (58, .bool false)], [.row (.slice (some ad112138) ((l0.take ((mn (l0.length : Int) 60).toNat)).drop 0).length n112139) 3 (((l0.take ((mn (l0.length : Int) 60).toNat)).drop 0).map enc23)], [(g112105, 24, [.int .i64 t112098, .int .i64 t112099, .int .i64 t112100]), (g2, 24, [.int .i64 a1_0, .int .i64 a1_1, .int .i64 a1_2])], []⟩) (True) ?_ ?_
                  · refine VC.draw ⟨0, [], [.row (.slice (some ad112138) ((l0.take ((mn (l0.length : Int) 60).toNat)).drop 0).length n112139) 3 (((l0.take ((mn (l0.length : Int) 60).toNat)).drop 0).map enc23)], [(g2, 24, [.int .i64 a1_0, .int .i64 a1_1, .int .i64 a1_2])], []⟩ (by kernel_rfl) rfl (by kernel_rfl) (n := 11) (listed := LB 11 0) ?_
                    refine VA.va (i := 0) (listed' := LB 11 1) rfl (op_move rfl (ltn rfl)) rfl (by kernel_rfl) (by kernel_rfl) (by kernel_rfl) (by kernel_rfl) ⟨⟨⟨0, rfl⟩, trivial⟩, ⟨⟨1, rfl⟩, trivial⟩, trivial⟩ (fun _ _ _ h => h) ?_
                    refine VA.va (i := 1) (listed' := LB 11 3) rfl (op_len (m := ((l0.take ((mn (l0.length : Int) 60).toNat)).drop 0).length) 0 lenm Try.underlying22 rfl rfl (ltn rfl)) rfl (by kernel_rfl) (by kernel_rfl) (by kernel_rfl) (by kernel_rfl) ⟨⟨⟨0, rfl⟩, trivial⟩, ⟨⟨1, rfl⟩, trivial⟩, trivial⟩ (fun _ _ _ h => h) ?_
                    refine VA.va (i := 2) (listed' := LB 11 7) rfl (op_cmp rfl rfl (congrArg some hb112144) (ltn rfl)) rfl (by kernel_rfl) (by kernel_rfl) (by kernel_rfl) (by kernel_rfl) ⟨⟨⟨0, rfl⟩, trivial⟩, ⟨⟨1, rfl⟩, trivial⟩, trivial⟩ (fun _ _ _ h => h) ?_
                    refine VA.va (i := 3) (listed' := LB 11 15) rfl (op_move rfl (ltn rfl)) rfl (by kernel_rfl) (by kernel_rfl) (by kernel_rfl) (by kernel_rfl) ⟨⟨⟨0, rfl⟩, trivial⟩, ⟨⟨1, rfl⟩, trivial⟩, trivial⟩ (fun _ _ _ h => h) ?_
                    refine VA.va (i := 4) (listed' := LB 11 31) rfl (op_move rfl (ltn rfl)) rfl (by kernel_rfl) (by kernel_rfl) (by kernel_rfl) (by kernel_rfl) ⟨⟨⟨0, rfl⟩, trivial⟩, ⟨⟨1, rfl⟩, trivial⟩, trivial⟩ (fun _ _ _ h => h) ?_
                    refine VA.va (i := 5) (listed' := LB 11 63) rfl (op_indexAddr Try.underlying22 TI24 rfl rfl (by decide) (lt_get (by decide) hx112147) rfl (ltn rfl)) rfl (by kernel_rfl) (by kernel_rfl) (by kernel_rfl) (by kernel_rfl) ⟨⟨⟨0, rfl⟩, trivial⟩, ⟨⟨1, rfl⟩, trivial⟩, trivial⟩ (fun _ _ _ h => h) ?_
                    refine VA.va (i := 6) (listed' := LB 11 127) rfl (op_load_row (sz := 3) (o := 0) 0 0 3 rfl rfl (get_map hx112147) TI24 rfl (fun h => absurd h (by decide)) (ltn rfl)) rfl (by kernel_rfl) (by kernel_rfl) (by kernel_rfl) (by kernel_rfl) ⟨⟨⟨0, rfl⟩, trivial⟩, ⟨⟨1, rfl⟩, trivial⟩, trivial⟩ (fun _ _ _ h => h) ?_
                    refine VA.va (i := 7) (listed' := LB 11 255) rfl (op_load 0 3 rfl rfl TI24 rfl (fun h => absurd h (by decide)) (ltn rfl)) rfl (by kernel_rfl) (by kernel_rfl) (by kernel_rfl) (by kernel_rfl) ⟨⟨⟨0, rfl⟩, trivial⟩, ⟨⟨1, rfl⟩, trivial⟩, trivial⟩ (fun _ _ _ h => h) ?_
                    refine VA.oneC (i := 8) (listed' := LB 11 511) (by kernel_rfl) rfl (o_call0 FO10 (queue_Less.ok k x112147.f0 x112147.f1 x112147.f2 a1_0 a1_1 a1_2 true hA112149) rfl rfl (ltn rfl) (All_of .nil)) rfl (by kernel_rfl) ?_
                    rintro _ _ _ ⟨rfl, rfl, rfl⟩
                    refine ⟨⟨⟨⟨0, rfl⟩, trivial⟩, ⟨⟨1, rfl⟩, trivial⟩, trivial⟩, ?_⟩
                    refine VA.va (i := 9) (listed' := LB 11 1023) rfl (op_not rfl rfl (ltn rfl)) rfl (by kernel_rfl) (by kernel_rfl) (by kernel_rfl) (by kernel_rfl) ⟨⟨⟨0, rfl⟩, trivial⟩, ⟨⟨1, rfl⟩, trivial⟩, trivial⟩ (fun _ _ _ h => h) ?_
                    refine VA.va (i := 10) (listed' := LB 11 2047) rfl (op_pick rfl rfl (ltn rfl)) rfl (by kernel_rfl) (by kernel_rfl) (by kernel_rfl) (by kernel_rfl) ⟨⟨⟨0, rfl⟩, trivial⟩, ⟨⟨1, rfl⟩, trivial⟩, trivial⟩ (fun _ _ _ h => h) ?_
                    refine VA.done (by kernel_rfl) ?_
                    exact VN.meet0  [0, 1] [] trivial ⟨rfl, ⟨rfl, rfl, rfl, rfl, rfl, trivial⟩, ⟨⟨0, rfl⟩, trivial⟩, rfl, by decide, rfl, by decide⟩
                  intro _
                  refine VC.cond_f rfl ?_
                  refine VC.skip ?_
                  refine VN.then ?_
                  replace h := Option.bind_eq_some_iff.1 h
                  obtain ⟨x112151, hx112151, h⟩ := h
                  refine VC.letter ((((t112098 == x112151.f0) && ((t112099 == x112151.f1) && (t112100 == x112151.f2))))) fun b112152 hb112152 => ?_
                  refine VC.join0 (⟨67, [(4, .bool b112152)], [], [], []⟩) (True) ?_ ?_
                  · refine VC.draw ⟨0, [], [.row (.slice (some ad112138) ((l0.take ((mn (l0.length : Int) 60).toNat)).drop 0).length n112139) 3 (((l0.take ((mn (l0.length : Int) 60).toNat)).drop 0).map enc23)], [(g112105, 24, [.int .i64 t112098, .int .i64 t112099, .int .i64 t112100])], []⟩ (by kernel_rfl) rfl (by kernel_rfl) (n := 6) (listed := LB 6 0) ?_
                    refine VA.va (i := 0) (listed' := LB 6 1) rfl (op_load 0 3 rfl rfl TI24 rfl (fun h => absurd h (by decide)) (ltn rfl)) rfl (by kernel_rfl) (by kernel_rfl) (by kernel_rfl) (by kernel_rfl) ⟨⟨⟨0, rfl⟩, trivial⟩, ⟨⟨0, rfl⟩, trivial⟩, trivial⟩ (fun _ _ _ h => h) ?_
                    refine VA.va (i := 1) (listed' := LB 6 3) rfl (op_move rfl (ltn rfl)) rfl (by kernel_rfl) (by kernel_rfl) (by kernel_rfl) (by kernel_rfl) ⟨⟨⟨0, rfl⟩, trivial⟩, ⟨⟨0, rfl⟩, trivial⟩, trivial⟩ (fun _ _ _ h => h) ?_
                    refine VA.va (i := 2) (listed' := LB 6 7) rfl (op_indexAddr Try.underlying22 TI24 rfl rfl (by decide) (lt_get (by decide) hx112151) rfl (ltn rfl)) rfl (by kernel_rfl) (by kernel_rfl) (by kernel_rfl) (by kernel_rfl) ⟨⟨⟨0, rfl⟩, trivial⟩, ⟨⟨0, rfl⟩, trivial⟩, trivial⟩ (fun _ _ _ h => h) ?_
                    refine VA.va (i := 3) (listed' := LB 6 15) rfl (op_load_row (sz := 3) (o := 0) 0 0 3 rfl rfl (get_map hx112151) TI24 rfl (fun h => absurd h (by decide)) (ltn rfl)) rfl (by kernel_rfl) (by kernel_rfl) (by kernel_rfl) (by kernel_rfl) ⟨⟨⟨0, rfl⟩, trivial⟩, ⟨⟨0, rfl⟩, trivial⟩, trivial⟩ (fun _ _ _ h => h) ?_
                    refine VA.va (i := 4) (listed' := LB 6 31) rfl (op_eqS rfl rfl EG24 (EQ24 t112098 t112099 t112100 x112151.f0 x112151.f1 x112151.f2) hb112152 (ltn rfl)) rfl (by kernel_rfl) (by kernel_rfl) (by kernel_rfl) (by kernel_rfl) ⟨⟨⟨0, rfl⟩, trivial⟩, ⟨⟨0, rfl⟩, trivial⟩, trivial⟩ (fun _ _ _ h => h) ?_
                    refine VA.va (i := 5) (listed' := LB 6 63) rfl (op_assign rfl (ltn rfl)) rfl (by kernel_rfl) (by kernel_rfl) (by kernel_rfl) (by kernel_rfl) ⟨⟨⟨0, rfl⟩, trivial⟩, ⟨⟨0, rfl⟩, trivial⟩, trivial⟩ (fun _ _ _ h => h) ?_
                    refine VA.done (by kernel_rfl) ?_
                    exact VN.meet0  [] [] trivial ⟨rfl, ⟨rfl, trivial⟩, trivial, rfl, by decide, rfl, by decide⟩
                  intro _
                  refine VC.ret ?_
                  obtain rfl := Option.some.inj h
                  subst hb112152
                  exact VR.fn (rs := [.tmp 4]) [] [] [] rfl (.tmp rfl .nil) ⟨rfl, rfl, rfl⟩ trivial rfl (by decide)
                · rw [if_neg c112150] at h
                  obtain rfl := Bool.eq_false_iff.2 c112150
                  refine VC.open (m := ((l0.take ((mn (l0.length : Int) 60).toNat)).drop 0).length) 0 lenm rfl (pos_get hx112147) ?_
                  rintro ad112138 n112139 rfl
                  refine VC.join0 (⟨67, [(0, (.slice (some ad112138) ((l0.take ((mn (l0.length : Int) 60).toNat)).drop 0).length n112139)), (3, .pointer (some ⟨g2, 0, none⟩)), (4, .bool false), (8, .pointer (some ⟨g112105, 0, none⟩)), (58, .bool true)], [.row (.slice (some ad112138) ((l0.take ((mn (l0.length : Int) 60).toNat)).drop 0).length n112139) 3 (((l0.take ((mn (l0.length : Int) 60).toNat)).drop 0).map enc23)], [(g112105, 24, [.int .i64 t112098, .int .i64 t112099, .int .i64 t112100]), (g2, 24, [.int .i64 a1_0, .int .i64 a1_1, .int .i64 a1_2])], []⟩) (True) ?_ ?_
                  · refine VC.draw ⟨0, [], [.row (.slice (some ad112138) ((l0.take ((mn (l0.length : Int) 60).toNat)).drop 0).length n112139) 3 (((l0.take ((mn (l0.length : Int) 60).toNat)).drop 0).map enc23)], [(g2, 24, [.int .i64 a1_0, .int .i64 a1_1, .int .i64 a1_2])], []⟩ (by kernel_rfl) rfl (by kernel_rfl) (n := 11) (listed := LB 11 0) ?_
                    refine VA.va (i := 0) (listed' := LB 11 1) rfl (op_move rfl (ltn rfl)) rfl (by kernel_rfl) (by kernel_rfl) (by kernel_rfl) (by kernel_rfl) ⟨⟨⟨0, rfl⟩, trivial⟩, ⟨⟨1, rfl⟩, trivial⟩, trivial⟩ (fun _ _ _ h => h) ?_
                    refine VA.va (i := 1) (listed' := LB 11 3) rfl (op_len (m := ((l0.take ((mn (l0.length : Int) 60).toNat)).drop 0).length) 0 lenm Try.underlying22 rfl rfl (ltn rfl)) rfl (by kernel_rfl) (by kernel_rfl) (by kernel_rfl) (by kernel_rfl) ⟨⟨⟨0, rfl⟩, trivial⟩, ⟨⟨1, rfl⟩, trivial⟩, trivial⟩ (fun _ _ _ h => h) ?_
                    refine VA.va (i := 2) (listed' := LB 11 7) rfl (op_cmp rfl rfl (congrArg some hb112144) (ltn rfl)) rfl (by kernel_rfl) (by kernel_rfl) (by kernel_rfl) (by kernel_rfl) ⟨⟨⟨0, rfl⟩, trivial⟩, ⟨⟨1, rfl⟩, trivial⟩, trivial⟩ (fun _ _ _ h => h) ?_
                    refine VA.va (i := 3) (listed' := LB 11 15) rfl (op_move rfl (ltn rfl)) rfl (by kernel_rfl) (by kernel_rfl) (by kernel_rfl) (by kernel_rfl) ⟨⟨⟨0, rfl⟩, trivial⟩, ⟨⟨1, rfl⟩, trivial⟩, trivial⟩ (fun _ _ _ h => h) ?_
                    refine VA.va (i := 4) (listed' := LB 11 31) rfl (op_move rfl (ltn rfl)) rfl (by kernel_rfl) (by kernel_rfl) (by kernel_rfl) (by kernel_rfl) ⟨⟨⟨0, rfl⟩, trivial⟩, ⟨⟨1, rfl⟩, trivial⟩, trivial⟩ (fun _ _ _ h => h) ?_
                    refine VA.va (i := 5) (listed' := LB 11 63) rfl (op_indexAddr Try.underlying22 TI24 rfl rfl (by decide) (lt_get (by decide) hx112147) rfl (ltn rfl)) rfl (by kernel_rfl) (by kernel_rfl) (by kernel_rfl) (by kernel_rfl) ⟨⟨⟨0, rfl⟩, trivial⟩, ⟨⟨1, rfl⟩, trivial⟩, trivial⟩ (fun _ _ _ h => h) ?_
                    refine VA.va (i := 6) (listed' := LB 11 127) rfl (op_load_row (sz := 3) (o := 0) 0 0 3 rfl rfl (get_map hx112147) TI24 rfl (fun h => absurd h (by decide)) (ltn rfl)) rfl (by kernel_rfl) (by kernel_rfl) (by kernel_rfl) (by kernel_rfl) ⟨⟨⟨0, rfl⟩, trivial⟩, ⟨⟨1, rfl⟩, trivial⟩, trivial⟩ (fun _ _ _ h => h) ?_
                    refine VA.va (i := 7) (listed' := LB 11 255) rfl (op_load 0 3 rfl rfl TI24 rfl (fun h => absurd h (by decide)) (ltn rfl)) rfl (by kernel_rfl) (by kernel_rfl) (by kernel_rfl) (by kernel_rfl) ⟨⟨⟨0, rfl⟩, trivial⟩, ⟨⟨1, rfl⟩, trivial⟩, trivial⟩ (fun _ _ _ h => h) ?_
                    refine VA.oneC (i := 8) (listed' := LB 11 511) (by kernel_rfl) rfl (o_call0 FO10 (queue_Less.ok k x112147.f0 x112147.f1 x112147.f2 a1_0 a1_1 a1_2 false hA112149) rfl rfl (ltn rfl) (All_of .nil)) rfl (by kernel_rfl) ?_
                    rintro _ _ _ ⟨rfl, rfl, rfl⟩
                    refine ⟨⟨⟨⟨0, rfl⟩, trivial⟩, ⟨⟨1, rfl⟩, trivial⟩, trivial⟩, ?_⟩
                    refine VA.va (i := 9) (listed' := LB 11 1023) rfl (op_not rfl rfl (ltn rfl)) rfl (by kernel_rfl) (by kernel_rfl) (by kernel_rfl) (by kernel_rfl) ⟨⟨⟨0, rfl⟩, trivial⟩, ⟨⟨1, rfl⟩, trivial⟩, trivial⟩ (fun _ _ _ h => h) ?_
                    refine VA.va (i := 10) (listed' := LB 11 2047) rfl (op_pick rfl rfl (ltn rfl)) rfl (by kernel_rfl) (by kernel_rfl) (by kernel_rfl) (by kernel_rfl) ⟨⟨⟨0, rfl⟩, trivial⟩, ⟨⟨1, rfl⟩, trivial⟩, trivial⟩ (fun _ _ _ h => h) ?_
                    refine VA.done (by kernel_rfl) ?_
                    exact VN.meet0  [0, 1] [] trivial ⟨rfl, ⟨rfl, rfl, rfl, rfl, rfl, trivial⟩, ⟨⟨0, rfl⟩, trivial⟩, rfl, by decide, rfl, by decide⟩
                  intro _
                  refine VC.cond_t rfl ?_
                  refine VC.seq ?_
                  refine VC.region ?_
                  refine VL.va (op_load 0 3 rfl rfl TI24 rfl (fun h => absurd h (by decide)) (ltn rfl)) rfl ?_
                  refine VL.va (op_load 1 3 rfl rfl TI24 rfl (fun h => absurd h (by decide)) (ltn rfl)) rfl ?_
                  refine VL.letter ((((t112098 == a1_0) && ((t112099 == a1_1) && (t112100 == a1_2))))) fun b112153 hb112153 => ?_
                  refine VL.va (op_eqS rfl rfl EG24 (EQ24 t112098 t112099 t112100 a1_0 a1_1 a1_2) hb112153 (ltn rfl)) rfl ?_
                  refine VL.va (op_assign rfl (ltn rfl)) rfl ?_
                  refine VL.done ?_
                  refine VN.then ?_
                  refine VC.ret ?_
                  refine VR.then ?_
                  obtain rfl := Option.some.inj h
                  subst hb112153
                  exact VR.fn (rs := [.tmp 4]) [] [] [] rfl (.tmp rfl .nil) ⟨rfl, rfl, rfl⟩ trivial rfl (by decide)
            · rw [if_neg c112133] at h
              obtain rfl := Bool.eq_false_iff.2 c112133
              refine VL.va (op_not rfl rfl (ltn rfl)) rfl ?_
              refine VL.va (op_pick rfl rfl (ltn rfl)) rfl ?_
              refine VL.done ?_
              refine VN.then ?_
              refine VC.cond_t rfl ?_
              refine VC.seq ?_
              refine VC.region ?_
              refine VL.va (op_assign rfl (ltn rfl)) rfl ?_
              refine VL.done ?_
              refine VN.then ?_
              refine VC.ret ?_
              refine VR.then ?_
              cases h
          · rw [if_neg c112130] at h
            obtain rfl : b112129 = true := hb112129.symm.trans (bne_iff_ne.2 c112130)
            refine VL.un rfl rfl (ltn rfl) ?_
            refine VL.un rfl rfl (ltn rfl) ?_
            refine VL.va (op_pick rfl rfl (ltn rfl)) rfl ?_
            refine VL.done ?_
            refine VN.then ?_
            refine VC.cond_t rfl ?_
            refine VC.seq ?_
            refine VC.region ?_
            refine VL.va (op_assign rfl (ltn rfl)) rfl ?_
            refine VL.done ?_
            refine VN.then ?_
            refine VC.ret ?_
            refine VR.then ?_
            cases h
        · rw [if_neg c112128] at h
          obtain rfl : b112127 = true := hb112127.symm.trans (bne_iff_ne.2 c112128)
          refine VL.un rfl rfl (ltn rfl) ?_
          refine VL.un rfl rfl (ltn rfl) ?_
          refine VL.un rfl rfl (ltn rfl) ?_
          refine VL.un rfl rfl (ltn rfl) ?_
          refine VL.un rfl rfl (ltn rfl) ?_
          refine VL.va (op_pick rfl rfl (ltn rfl)) rfl ?_
          refine VL.va (op_move rfl (ltn rfl)) rfl ?_
          refine VL.un rfl rfl (ltn rfl) ?_
          refine VL.un rfl rfl (ltn rfl) ?_
          refine VL.va (op_pick rfl rfl (ltn rfl)) rfl ?_
          refine VL.done ?_
          refine VN.then ?_
          refine VC.cond_t rfl ?_
          refine VC.seq ?_
          refine VC.region ?_
          refine VL.va (op_assign rfl (ltn rfl)) rfl ?_
          refine VL.done ?_
          refine VN.then ?_
          refine VC.ret ?_
          refine VR.then ?_
          cases h
      · rw [if_neg c112096] at h
        obtain rfl : b112095 = true := hb112095.symm.trans (bne_iff_ne.2 c112096)
        refine VC.cond_t rfl ?_
        refine VC.seq ?_
        refine VC.region ?_
        replace h := Option.bind_eq_some_iff.1 h
        obtain ⟨t112158, hA112159, h⟩ := h
        refine VL.sC (o_call0 FO14 (tarrylaw06_alive.ok k t112158 hA112159) rfl rfl (ltn rfl) (All_of .nil)) rfl ?_
        rintro _ _ _ ⟨rfl, rfl, rfl⟩
        refine VL.va (op_move rfl (ltn rfl)) rfl ?_
        by_cases c112160 : t112158 = true
        · rw [if_pos c112160] at h
          obtain rfl := c112160
          refine VL.va (op_move rfl (ltn rfl)) rfl ?_
          refine VL.va (op_len_own (m := r1026.length) 0 lenm Try.underlying22 rfl rfl (ltn rfl)) rfl ?_
          refine VL.letter (((r1026.length : Int) == 0)) fun b112161 hb112161 => ?_
          refine VL.va (op_cmp rfl rfl (congrArg some hb112161) (ltn rfl)) rfl ?_
          refine VL.va (op_pick rfl rfl (ltn rfl)) rfl ?_
          refine VL.va (op_assign rfl (ltn rfl)) rfl ?_
          refine VL.done ?_
          refine VN.then ?_
          refine VC.ret ?_
          refine VR.then ?_
          obtain rfl := Option.some.inj h
          subst hb112161
          exact VR.fn (rs := [.tmp 4]) [] [] [] rfl (.tmp rfl .nil) ⟨rfl, rfl, rfl⟩ trivial rfl (by decide)
        · rw [if_neg c112160] at h
          obtain rfl := Bool.eq_false_iff.2 c112160
          refine VL.un rfl rfl (ltn rfl) ?_
          refine VL.un rfl rfl (ltn rfl) ?_
          refine VL.un rfl rfl (ltn rfl) ?_
          refine VL.va (op_pick rfl rfl (ltn rfl)) rfl ?_
          refine VL.va (op_assign rfl (ltn rfl)) rfl ?_
          refine VL.done ?_
          refine VN.then ?_
          refine VC.ret ?_
          refine VR.then ?_
          cases h
    · rw [if_neg c4] at h; cases h
  · rw [if_neg c3] at h; cases h

end Go.Proofs.Ythgoagnennjagaa.PQueueTop
