/- Written by a program of this repo over the kit's print program: what the program's functions do, each as a Lean function, shown of the loaded code; or a statement's row over that; no condition of its own. -/
import Derived.Test.YtagclnkmndgeoaaPPayGoesx0
import Derived.Test.YtagclnkmndgeoaaPPayGoesx1
import Derived.Test.YtagclnkmndgeoaaPPayGoesx4
import Derived.Test.YtagclnkmndgeoaaPPayGoesx5
namespace Go.Proofs.Ytagclnkmndgeoaa.PPayGoes
open Go.RowKit Go.Proofs.YtagclnkmndgeoaaW.PrintWords Go.Proofs.YtagclnkmndgeoaaW.PrintLast Go.Proofs.YtagclnkmndgeoaaW.PrintMore
attribute [local go_sem] max2_int min2_int max_two min_two max_three min_three max_four min_four   -- for this text's walks alone
set_option linter.unusedVariables false
set_option linter.unusedSimpArgs false

attribute [local go_sem high] eqA23
/-! ### pay_Catch (by hand: function values) -/
def pay_Catch.f (a0_0 : Int) (a0_1 : Int) (a0_2 : Int) (a0_3 : Int) (a1 : Int) : Option (Int × Int × Int × Int × Int) :=
  if a1 < 0 then some (0, 0, 0, 0, 1) else (pay_Right.f a0_0 a0_1 a0_2 a0_3).bind fun t => if t = true then (if a0_3 = 3 then some (0, 0, 0, 0, 10) else if a1 ≤ a0_0 - a0_1 then some (a0_0, a0_1 + a1, a0_2, a0_3, 0) else some (0, 0, 0, 0, 2)) else some (0, 0, 0, 0, 1)
set_option maxHeartbeats 8000000 in
set_option maxRecDepth 100000 in
theorem pay_Catch.calls (a0_0 : Int) (a0_1 : Int) (a0_2 : Int) (a0_3 : Int) (a1 : Int) (r1 : Int) (r2 : Int) (r3 : Int) (r4 : Int) (r5 : Int) (w : World) (h : pay_Catch.f a0_0 a0_1 a0_2 a0_3 a1 = some (r1, r2, r3, r4, r5)) :
    Calls Try.prog 13 #[.agg #[.int .i64 a0_0, .int .i64 a0_1, .int .i64 a0_2, .int .i64 a0_3], .int .i64 a1] w fun e w' => e = .returned (.tuple #[.agg #[.int .i64 r1, .int .i64 r2, .int .i64 r3, .int .i64 r4], .int .i64 r5]) ∧ Below w.heap.size w w' := by
  have hu23 := Try.underlying23
  unfold pay_Catch.f at h
  by_cases c0 : a1 < 0
  · rw [if_pos c0] at h
    simp only [Option.some.injEq, Prod.mk.injEq] at h
    obtain ⟨rfl, rfl, rfl, rfl, rfl⟩ := h
    go_enter Try.func13, Try.ntmps13
    go_wp2
    all_goals refine bodyPost_ret (v := .tuple #[.agg #[.int .i64 0, .int .i64 0, .int .i64 0, .int .i64 0], .int .i64 1]) (by (simp [results, Try.results13, go_sem]) <;> omega) rfl ⟨rfl, ?_⟩
    all_goals repeat (first | (with_reducible exact Below.refl _ _) | (with_reducible apply below_alloc) | (with_reducible apply pw_below_drewN) | (with_reducible apply below_drew1) | (with_reducible refine below_set ?_ (by first | omega | (simp; done))))
  rw [if_neg c0] at h
  have c0' : 0 ≤ a1 := by omega
  clear c0
  have h0 := h
  clear h
  obtain ⟨t, hA, h⟩ := Option.bind_eq_some_iff.mp h0
  clear h0
  by_cases c1 : t = true
  · subst c1
    rw [if_pos rfl] at h
    obtain ⟨q1, q2, q3, q4, q5, q6, q7, q8⟩ := pay_asked.right hA
    clear hA
    by_cases c2 : a0_3 = 3
    · rw [if_pos c2] at h
      simp only [Option.some.injEq, Prod.mk.injEq] at h
      obtain ⟨rfl, rfl, rfl, rfl, rfl⟩ := h
      obtain rfl := c2
      clear q7 q8
      go_enter Try.func13, Try.ntmps13
      go_wp2
      all_goals (first | (refine bodyPost_ret (v := .tuple #[.agg #[.int .i64 0, .int .i64 0, .int .i64 0, .int .i64 0], .int .i64 10]) (by simp [results, Try.results20, go_sem]) rfl ?_) | ((first | go_end0 | ((try simp only [Exit.inBlock, Exit.then]); refine bodyPost_ret (results_none rfl _ _ _) rfl ?_)); (try dsimp only); go_wp2; refine bodyPost_ret (v := .tuple #[.agg #[.int .i64 0, .int .i64 0, .int .i64 0, .int .i64 0], .int .i64 10]) (by simp [results, Try.results20, go_sem]) rfl ?_))
      all_goals (try dsimp only)
      all_goals go_wp2
      all_goals refine bodyPost_ret (v := .tuple #[.agg #[.int .i64 0, .int .i64 0, .int .i64 0, .int .i64 0], .int .i64 10]) (by (simp [results, Try.results13, go_sem]) <;> omega) rfl ⟨rfl, ?_⟩
      all_goals repeat (first | (with_reducible exact Below.refl _ _) | (with_reducible apply below_alloc) | (with_reducible apply pw_below_drewN) | (with_reducible apply below_drew1) | (with_reducible refine below_set ?_ (by first | omega | (simp; done))))
    rw [if_neg c2] at h
    have c2b : (a0_3 == 3) = false := by simpa using c2
    have e1 : IntKind.i64.wrap (a0_0 - a0_1) = a0_0 - a0_1 := IntWalk.i64_in _ (by omega)
    have q9 : 0 ≤ a0_0 - a0_1 := by omega
    have q10 : a0_0 - a0_1 ≤ 1125899906842624 := by omega
    clear c2
    by_cases c3 : a1 ≤ a0_0 - a0_1
    · rw [if_pos c3] at h
      simp only [Option.some.injEq, Prod.mk.injEq] at h
      obtain ⟨rfl, rfl, rfl, rfl, rfl⟩ := h
      have q11 : 0 ≤ a0_1 + a1 := by omega
      have q12 : a0_1 + a1 ≤ 1125899906842624 := by omega
      have e2 : IntKind.i64.wrap (a0_1 + a1) = a0_1 + a1 := IntWalk.i64_in _ (by omega)
      go_enter Try.func13, Try.ntmps13
      go_wp2
      go_region
      all_goals go_wp2
      all_goals (first | (refine bodyPost_ret (v := .tuple #[.agg #[.int .i64 a0_0, .int .i64 (a0_1 + a1), .int .i64 a0_2, .int .i64 a0_3], .int .i64 0]) (by simp [results, Try.results20, go_sem]) rfl ?_) | ((first | go_end0 | ((try simp only [Exit.inBlock, Exit.then]); refine bodyPost_ret (results_none rfl _ _ _) rfl ?_)); (try dsimp only); go_wp2; refine bodyPost_ret (v := .tuple #[.agg #[.int .i64 a0_0, .int .i64 (a0_1 + a1), .int .i64 a0_2, .int .i64 a0_3], .int .i64 0]) (by simp [results, Try.results20, go_sem]) rfl ?_))
      all_goals (try dsimp only)
      all_goals go_wp2
      all_goals refine bodyPost_ret (v := .tuple #[.agg #[.int .i64 a0_0, .int .i64 (a0_1 + a1), .int .i64 a0_2, .int .i64 a0_3], .int .i64 0]) (by (simp [results, Try.results13, go_sem]) <;> omega) rfl ⟨rfl, ?_⟩
      all_goals repeat (first | (with_reducible exact Below.refl _ _) | (with_reducible apply below_alloc) | (with_reducible apply pw_below_drewN) | (with_reducible apply below_drew1) | (with_reducible refine below_set ?_ (by first | omega | (simp; done))))
    rw [if_neg c3] at h
    simp only [Option.some.injEq, Prod.mk.injEq] at h
    obtain ⟨rfl, rfl, rfl, rfl, rfl⟩ := h
    have c3' : a0_0 - a0_1 < a1 := by omega
    clear c3
    go_enter Try.func13, Try.ntmps13
    go_wp2
    all_goals (first | (refine bodyPost_ret (v := .tuple #[.agg #[.int .i64 0, .int .i64 0, .int .i64 0, .int .i64 0], .int .i64 2]) (by simp [results, Try.results20, go_sem]) rfl ?_) | ((first | go_end0 | ((try simp only [Exit.inBlock, Exit.then]); refine bodyPost_ret (results_none rfl _ _ _) rfl ?_)); (try dsimp only); go_wp2; refine bodyPost_ret (v := .tuple #[.agg #[.int .i64 0, .int .i64 0, .int .i64 0, .int .i64 0], .int .i64 2]) (by simp [results, Try.results20, go_sem]) rfl ?_))
    all_goals (try dsimp only)
    all_goals go_wp2
    all_goals refine bodyPost_ret (v := .tuple #[.agg #[.int .i64 0, .int .i64 0, .int .i64 0, .int .i64 0], .int .i64 2]) (by (simp [results, Try.results13, go_sem]) <;> omega) rfl ⟨rfl, ?_⟩
    all_goals repeat (first | (with_reducible exact Below.refl _ _) | (with_reducible apply below_alloc) | (with_reducible apply pw_below_drewN) | (with_reducible apply below_drew1) | (with_reducible refine below_set ?_ (by first | omega | (simp; done))))
  rw [if_neg c1] at h
  replace c1 := Bool.eq_false_iff.mpr c1
  subst c1
  simp only [Option.some.injEq, Prod.mk.injEq] at h
  obtain ⟨rfl, rfl, rfl, rfl, rfl⟩ := h
  have HA := Aside0.mk hA
  clear hA
  go_enter Try.func13, Try.ntmps13
  go_wp2_with (first | (go_at_call 20; (with_reducible refine (pay_asked.no _ _ _ _ _ _ _ HA.out).mono ?_); rintro e w1 ⟨rfl, hb⟩; obtain ⟨hc, hf⟩ := pay_asked.bcell hb; have hz : w.heap.size + 2 < w1.heap.size := (by have := hb.size; simp at this; omega); have HB := Aside0.mk hb; clear hb) | go_in)
  refine bodyPost_ret (v := .tuple #[.agg #[.int .i64 0, .int .i64 0, .int .i64 0, .int .i64 0], .int .i64 1]) (by simp [results, Try.results13, go_sem, hc, hz]) rfl ⟨rfl, ?_⟩
  repeat (first | (with_reducible apply below_drew1) | (with_reducible apply pw_below_drewN) | (with_reducible refine below_set ?_ (by first | omega | (simp; done))))
  refine pay_asked.trans HB.out ?_
  repeat (first | (with_reducible exact Below.refl _ _) | (with_reducible apply below_alloc) | (with_reducible apply pw_below_drewN) | (with_reducible apply below_drew1) | (with_reducible refine below_set ?_ (by first | omega | (simp; done))))

/-! ### tarrylaw11_alive: function 11 -/
def tarrylaw11_alive.f (k : Nat)  : Option (Bool) := (pay_New.f k 3 5 9).bind fun bt120 => ((pay_Catch.f bt120.1 bt120.2.1 bt120.2.2.1 bt120.2.2.2.1 10).bind fun bt126 => (if bt120.2.2.2.2 = 0 then (if bt126.2.2.2.2 = 0 then (some (bt126.1 == 15 && (bt126.2.1 == 10 && (bt126.2.2.1 == 9 && (bt126.2.2.2.1 == 1))))) else (some false)) else (some false)))
theorem tarrylaw11_alive.mono : ∀ k, LeO (tarrylaw11_alive.f k ) (tarrylaw11_alive.f (k + 1) ) := by
  intro  k
  unfold tarrylaw11_alive.f
  repeat' first
      | (with_reducible exact pay_New.mono _ _ _ _)
      | (with_reducible exact LeO.refl _)
      | (with_reducible exact LeO.none _)
      | (with_reducible refine LeO.ite ?_ ?_)
      | (with_reducible refine LeO.bind ?_ (fun _ => ?_))
      | exact pay_New.mono _ _ _ _
      | exact LeO.none _
      | refine LeO.ite ?_ ?_
      | refine LeO.bind ?_ (fun _ => ?_)
set_option maxHeartbeats 8000000 in
set_option maxRecDepth 100000 in
theorem tarrylaw11_alive.calls (k : Nat)  (r : Bool) (w : World) (h : tarrylaw11_alive.f k  = some r) :
    Calls Try.prog 11 #[] w fun e w' => e = .returned (.bool r) ∧ Below w.heap.size w w' := by
  have hu23 := Try.underlying23
  have HB := Aside0.mk (Below.refl w.heap.size w)
  have H : ((pay_New.f k 3 5 9).bind fun bt120 => ((pay_Catch.f bt120.1 bt120.2.1 bt120.2.2.1 bt120.2.2.2.1 10).bind fun bt126 => (if bt120.2.2.2.2 = 0 then (if bt126.2.2.2.2 = 0 then (some (bt126.1 == 15 && (bt126.2.1 == 10 && (bt126.2.2.1 == 9 && (bt126.2.2.2.1 == 1))))) else (some false)) else (some false)))) = some r := h
  clear h
  replace H := Option.bind_eq_some_iff.mp H
  obtain ⟨⟨t120, t121, t122, t123, t124⟩, A10, H⟩ := H
  replace H : ((pay_Catch.f t120 t121 t122 t123 10).bind fun bt126 => (if t124 = 0 then (if bt126.2.2.2.2 = 0 then (some (bt126.1 == 15 && (bt126.2.1 == 10 && (bt126.2.2.1 == 9 && (bt126.2.2.2.1 == 1))))) else (some false)) else (some false))) = some r := H
  have A1 := Aside0.mk A10
  clear A10
  replace H := Option.bind_eq_some_iff.mp H
  obtain ⟨⟨t126, t127, t128, t129, t130⟩, A20, H⟩ := H
  replace H : (if t124 = 0 then (if t130 = 0 then (some (t126 == 15 && (t127 == 10 && (t128 == 9 && (t129 == 1))))) else (some false)) else (some false)) = some r := H
  have A2 := Aside0.mk A20
  clear A20
  by_cases c3 : t124 = 0
  · rw [if_pos c3] at H
    have c3b0 : (t124 == 0) = true := beq_iff_eq.mpr c3
    have c3b1 : (t124 != 0) = false := bne_eq_false_iff_eq.mpr c3
    clear c3
    by_cases c4 : t130 = 0
    · rw [if_pos c4] at H
      have c4b0 : (t130 == 0) = true := beq_iff_eq.mpr c4
      have c4b1 : (t130 != 0) = false := bne_eq_false_iff_eq.mpr c4
      clear c4
      obtain rfl := Option.some.inj H
      go_enter Try.func11, Try.ntmps11
      go_wp2_with (first | ((with_reducible refine gate_callee (f := 7) rfl ?_); refine goesL_ (some 5) rfl rfl Try.func7 (by kernel_rfl) rfl #[.int .i64 3, .int .i64 5, .int .i64 9] rfl (by (try simp only [List.map_toArray, List.map_cons, List.map_nil]); first | done | rfl | (simp only [List.length_drop, List.length_take]; rfl)) ?_; (with_reducible refine (pay_New.calls k 3 5 9 t120 t121 t122 t123 t124 _ A1.out).mono ?_); rintro e w5 ⟨rfl, hb⟩; refine ⟨_, rfl, ?_⟩; have n0_ := hs_ HB hb; clear HB; have HB := n0_; clear n0_; (try clear hb); (try clear hb2); (try clear hk); (try clear hi)) | ((with_reducible refine gate_dst (N := 1) rfl ?_); refine box_event ?hg (N := 1) ?hd (cs := #[.int .i64 0, .int .i64 0, .int .i64 0, .int .i64 0]) (t := 23) ?hr ?_; (case hd => rfl); (case hg => rfl); (case hr => first | (go_simp; done) | (go_simp; rfl)); intro gb125 hg w6 hbox hb; have n0_ := hs_ HB hb; have n1_ := Aside0.mk (hbox); have n2_ := hz_ HB hg; have n3_ := hz_ HB hg; clear HB; have HB := n0_; have BK125 := n1_; have GW125 := n2_; have GE125 := n3_; clear n0_ n1_ n2_ n3_; clear hb hbox hg; obtain ⟨hcz7_0, hcz7_1, hcz7_2, hcz7_3, hfz7_0, hfz7_1, hfz7_2⟩ := cz4_3 BK125.out; have hfz7_3 := blk_frozen BK125.out 3) | ((with_reducible refine gate_callee (f := 13) rfl ?_); refine goesL_ (some 10) rfl rfl Try.func13 (by kernel_rfl) rfl #[.agg #[.int .i64 t120, .int .i64 t121, .int .i64 t122, .int .i64 t123], .int .i64 10] rfl (by (try simp only [List.map_toArray, List.map_cons, List.map_nil]); first | done | rfl | (simp only [List.length_drop, List.length_take]; rfl)) ?_; (with_reducible refine (pay_Catch.calls t120 t121 t122 t123 10 t126 t127 t128 t129 t130 _ A2.out).mono ?_); rintro e w8 ⟨rfl, hb⟩; refine ⟨_, rfl, ?_⟩; have n0_ := Aside0.mk (blk_below (g := gb125) (o := .cells #[.int .i64 t120, .int .i64 t121, .int .i64 t122, .int .i64 t123] 23 (0, 0)) (by (with_reducible repeat (first | refine blk_drewN ?_ _ | refine blk_drew ?_ | refine blk_alloc ?_ _)); refine blk_put (cs := #[.int .i64 t120, .int .i64 t121, .int .i64 t122, .int .i64 0]) ?_ 3 _ rfl; (with_reducible repeat (first | refine blk_drewN ?_ _ | refine blk_drew ?_ | refine blk_alloc ?_ _)); refine blk_put (cs := #[.int .i64 t120, .int .i64 t121, .int .i64 0, .int .i64 0]) ?_ 2 _ rfl; (with_reducible repeat (first | refine blk_drewN ?_ _ | refine blk_drew ?_ | refine blk_alloc ?_ _)); refine blk_put (cs := #[.int .i64 t120, .int .i64 0, .int .i64 0, .int .i64 0]) ?_ 1 _ rfl; (with_reducible repeat (first | refine blk_drewN ?_ _ | refine blk_drew ?_ | refine blk_alloc ?_ _)); refine blk_put (cs := #[.int .i64 0, .int .i64 0, .int .i64 0, .int .i64 0]) ?_ 0 _ rfl; (with_reducible repeat (first | refine blk_drewN ?_ _ | refine blk_drew ?_ | refine blk_alloc ?_ _)); exact BK125.out) hb); have n1_ := hs_ HB hb; clear BK125; clear HB; have BK125 := n0_; have HB := n1_; clear n0_ n1_; (try clear hb); (try clear hb2); (try clear hk); (try clear hi); obtain ⟨hcz9_0, hcz9_1, hcz9_2, hcz9_3, hfz9_0, hfz9_1, hfz9_2⟩ := cz4_3 BK125.out; have hfz9_3 := blk_frozen BK125.out 3))
      go_ret
      exact ⟨by first | rfl | (simp [errW_none, errW_some] <;> rfl) | (simp [*, errW_none, errW_some] <;> rfl), by repeat (first | (with_reducible first | exact HB.out | apply below_alloc | apply pw_below_drewN | apply below_drew1 | refine below_set ?_ GE125.out) | exact HB.out)⟩
    rw [if_neg c4] at H
    have c4b0 : (t130 == 0) = false := beq_eq_false_iff_ne.mpr c4
    have c4b1 : (t130 != 0) = true := bne_iff_ne.mpr c4
    obtain rfl := Option.some.inj H
    go_enter Try.func11, Try.ntmps11
    go_wp2_with (first | ((with_reducible refine gate_callee (f := 7) rfl ?_); refine goesL_ (some 5) rfl rfl Try.func7 (by kernel_rfl) rfl #[.int .i64 3, .int .i64 5, .int .i64 9] rfl (by (try simp only [List.map_toArray, List.map_cons, List.map_nil]); first | done | rfl | (simp only [List.length_drop, List.length_take]; rfl)) ?_; (with_reducible refine (pay_New.calls k 3 5 9 t120 t121 t122 t123 t124 _ A1.out).mono ?_); rintro e w10 ⟨rfl, hb⟩; refine ⟨_, rfl, ?_⟩; have n0_ := hs_ HB hb; clear HB; have HB := n0_; clear n0_; (try clear hb); (try clear hb2); (try clear hk); (try clear hi)) | ((with_reducible refine gate_dst (N := 1) rfl ?_); refine box_event ?hg (N := 1) ?hd (cs := #[.int .i64 0, .int .i64 0, .int .i64 0, .int .i64 0]) (t := 23) ?hr ?_; (case hd => rfl); (case hg => rfl); (case hr => first | (go_simp; done) | (go_simp; rfl)); intro gb125 hg w11 hbox hb; have n0_ := hs_ HB hb; have n1_ := Aside0.mk (hbox); have n2_ := hz_ HB hg; have n3_ := hz_ HB hg; clear HB; have HB := n0_; have BK125 := n1_; have GW125 := n2_; have GE125 := n3_; clear n0_ n1_ n2_ n3_; clear hb hbox hg; obtain ⟨hcz12_0, hcz12_1, hcz12_2, hcz12_3, hfz12_0, hfz12_1, hfz12_2⟩ := cz4_3 BK125.out; have hfz12_3 := blk_frozen BK125.out 3) | ((with_reducible refine gate_callee (f := 13) rfl ?_); refine goesL_ (some 10) rfl rfl Try.func13 (by kernel_rfl) rfl #[.agg #[.int .i64 t120, .int .i64 t121, .int .i64 t122, .int .i64 t123], .int .i64 10] rfl (by (try simp only [List.map_toArray, List.map_cons, List.map_nil]); first | done | rfl | (simp only [List.length_drop, List.length_take]; rfl)) ?_; (with_reducible refine (pay_Catch.calls t120 t121 t122 t123 10 t126 t127 t128 t129 t130 _ A2.out).mono ?_); rintro e w13 ⟨rfl, hb⟩; refine ⟨_, rfl, ?_⟩; have n0_ := Aside0.mk (blk_below (g := gb125) (o := .cells #[.int .i64 t120, .int .i64 t121, .int .i64 t122, .int .i64 t123] 23 (0, 0)) (by (with_reducible repeat (first | refine blk_drewN ?_ _ | refine blk_drew ?_ | refine blk_alloc ?_ _)); refine blk_put (cs := #[.int .i64 t120, .int .i64 t121, .int .i64 t122, .int .i64 0]) ?_ 3 _ rfl; (with_reducible repeat (first | refine blk_drewN ?_ _ | refine blk_drew ?_ | refine blk_alloc ?_ _)); refine blk_put (cs := #[.int .i64 t120, .int .i64 t121, .int .i64 0, .int .i64 0]) ?_ 2 _ rfl; (with_reducible repeat (first | refine blk_drewN ?_ _ | refine blk_drew ?_ | refine blk_alloc ?_ _)); refine blk_put (cs := #[.int .i64 t120, .int .i64 0, .int .i64 0, .int .i64 0]) ?_ 1 _ rfl; (with_reducible repeat (first | refine blk_drewN ?_ _ | refine blk_drew ?_ | refine blk_alloc ?_ _)); refine blk_put (cs := #[.int .i64 0, .int .i64 0, .int .i64 0, .int .i64 0]) ?_ 0 _ rfl; (with_reducible repeat (first | refine blk_drewN ?_ _ | refine blk_drew ?_ | refine blk_alloc ?_ _)); exact BK125.out) hb); have n1_ := hs_ HB hb; clear BK125; clear HB; have BK125 := n0_; have HB := n1_; clear n0_ n1_; (try clear hb); (try clear hb2); (try clear hk); (try clear hi); obtain ⟨hcz14_0, hcz14_1, hcz14_2, hcz14_3, hfz14_0, hfz14_1, hfz14_2⟩ := cz4_3 BK125.out; have hfz14_3 := blk_frozen BK125.out 3))
    go_ret
    exact ⟨by first | rfl | (simp [errW_none, errW_some] <;> rfl) | (simp [*, errW_none, errW_some] <;> rfl), by repeat (first | (with_reducible first | exact HB.out | apply below_alloc | apply pw_below_drewN | apply below_drew1 | refine below_set ?_ GE125.out) | exact HB.out)⟩
  rw [if_neg c3] at H
  have c3b0 : (t124 == 0) = false := beq_eq_false_iff_ne.mpr c3
  have c3b1 : (t124 != 0) = true := bne_iff_ne.mpr c3
  obtain rfl := Option.some.inj H
  go_enter Try.func11, Try.ntmps11
  go_wp2_with (first | ((with_reducible refine gate_callee (f := 7) rfl ?_); refine goesL_ (some 5) rfl rfl Try.func7 (by kernel_rfl) rfl #[.int .i64 3, .int .i64 5, .int .i64 9] rfl (by (try simp only [List.map_toArray, List.map_cons, List.map_nil]); first | done | rfl | (simp only [List.length_drop, List.length_take]; rfl)) ?_; (with_reducible refine (pay_New.calls k 3 5 9 t120 t121 t122 t123 t124 _ A1.out).mono ?_); rintro e w15 ⟨rfl, hb⟩; refine ⟨_, rfl, ?_⟩; have n0_ := hs_ HB hb; clear HB; have HB := n0_; clear n0_; (try clear hb); (try clear hb2); (try clear hk); (try clear hi)) | ((with_reducible refine gate_dst (N := 1) rfl ?_); refine box_event ?hg (N := 1) ?hd (cs := #[.int .i64 0, .int .i64 0, .int .i64 0, .int .i64 0]) (t := 23) ?hr ?_; (case hd => rfl); (case hg => rfl); (case hr => first | (go_simp; done) | (go_simp; rfl)); intro gb125 hg w16 hbox hb; have n0_ := hs_ HB hb; have n1_ := Aside0.mk (hbox); have n2_ := hz_ HB hg; have n3_ := hz_ HB hg; clear HB; have HB := n0_; have BK125 := n1_; have GW125 := n2_; have GE125 := n3_; clear n0_ n1_ n2_ n3_; clear hb hbox hg; obtain ⟨hcz17_0, hcz17_1, hcz17_2, hcz17_3, hfz17_0, hfz17_1, hfz17_2⟩ := cz4_3 BK125.out; have hfz17_3 := blk_frozen BK125.out 3) | ((with_reducible refine gate_callee (f := 13) rfl ?_); refine goesL_ (some 10) rfl rfl Try.func13 (by kernel_rfl) rfl #[.agg #[.int .i64 t120, .int .i64 t121, .int .i64 t122, .int .i64 t123], .int .i64 10] rfl (by (try simp only [List.map_toArray, List.map_cons, List.map_nil]); first | done | rfl | (simp only [List.length_drop, List.length_take]; rfl)) ?_; (with_reducible refine (pay_Catch.calls t120 t121 t122 t123 10 t126 t127 t128 t129 t130 _ A2.out).mono ?_); rintro e w18 ⟨rfl, hb⟩; refine ⟨_, rfl, ?_⟩; have n0_ := Aside0.mk (blk_below (g := gb125) (o := .cells #[.int .i64 t120, .int .i64 t121, .int .i64 t122, .int .i64 t123] 23 (0, 0)) (by (with_reducible repeat (first | refine blk_drewN ?_ _ | refine blk_drew ?_ | refine blk_alloc ?_ _)); refine blk_put (cs := #[.int .i64 t120, .int .i64 t121, .int .i64 t122, .int .i64 0]) ?_ 3 _ rfl; (with_reducible repeat (first | refine blk_drewN ?_ _ | refine blk_drew ?_ | refine blk_alloc ?_ _)); refine blk_put (cs := #[.int .i64 t120, .int .i64 t121, .int .i64 0, .int .i64 0]) ?_ 2 _ rfl; (with_reducible repeat (first | refine blk_drewN ?_ _ | refine blk_drew ?_ | refine blk_alloc ?_ _)); refine blk_put (cs := #[.int .i64 t120, .int .i64 0, .int .i64 0, .int .i64 0]) ?_ 1 _ rfl; (with_reducible repeat (first | refine blk_drewN ?_ _ | refine blk_drew ?_ | refine blk_alloc ?_ _)); refine blk_put (cs := #[.int .i64 0, .int .i64 0, .int .i64 0, .int .i64 0]) ?_ 0 _ rfl; (with_reducible repeat (first | refine blk_drewN ?_ _ | refine blk_drew ?_ | refine blk_alloc ?_ _)); exact BK125.out) hb); have n1_ := hs_ HB hb; clear BK125; clear HB; have BK125 := n0_; have HB := n1_; clear n0_ n1_; (try clear hb); (try clear hb2); (try clear hk); (try clear hi); obtain ⟨hcz19_0, hcz19_1, hcz19_2, hcz19_3, hfz19_0, hfz19_1, hfz19_2⟩ := cz4_3 BK125.out; have hfz19_3 := blk_frozen BK125.out 3))
  go_ret
  exact ⟨by first | rfl | (simp [errW_none, errW_some] <;> rfl) | (simp [*, errW_none, errW_some] <;> rfl), by repeat (first | (with_reducible first | exact HB.out | apply below_alloc | apply pw_below_drewN | apply below_drew1 | refine below_set ?_ GE125.out) | exact HB.out)⟩

end Go.Proofs.Ytagclnkmndgeoaa.PPayGoes
