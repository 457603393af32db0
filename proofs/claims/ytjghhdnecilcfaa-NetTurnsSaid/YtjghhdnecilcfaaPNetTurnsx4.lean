/- Written by a program of this repo over the kit's print program: what the program's functions do, each as a Lean function, shown of the loaded code; or a statement's row over that; no condition of its own. -/
import Derived.Test.YtjghhdnecilcfaaPNetTurnsx0
import Derived.Test.YtjghhdnecilcfaaPNetTurnsx3
namespace Go.Proofs.Ytjghhdnecilcfaa.PNetTurns
open Go.RowKit Go.Proofs.YtjghhdnecilcfaaW.PrintWords Go.Proofs.YtjghhdnecilcfaaW.PrintLast Go.Proofs.YtjghhdnecilcfaaW.PrintMore
attribute [local go_sem] max2_int min2_int max_two min_two max_three min_three max_four min_four   -- for this text's walks alone
set_option linter.unusedVariables false
set_option linter.unusedSimpArgs false

/-! ### net_Right: function 11 -/
def net_Right.l0 : Nat → List (S26) → Int → Int → List (S26) → Int → Option (Bool)
  | 0, _, _, _, _, _ => none
  | k + 1, x6, x7, x8, x112000, x112001 => if x8 < x7 then (if 0 ≤ x8 then (if x8 < (x6.length : Int) then ((net_may.f ((rd_T26 x6 x8).f0) ((rd_T26 x6 x8).f1) ((rd_T26 x6 x8).f2) ((rd_T26 x6 x8).f3) ((rd_T26 x6 x8).f4) ((rd_T26 x6 x8).f5)).bind fun t114 => (if t114 = true then (if ((rd_T26 x6 x8).f0) < 1 then (some false) else (if ((rd_T26 x6 x8).f0) > x112001 then (some false) else (net_Right.l0 k x6 x7 (wrap64 (x8 + 1)) x112000 x112001))) else (some false))) else (none)) else (none)) else (if (x112000.length : Int) ≤ 64 then (if x112001 ≥ 0 then (some (decide (x112001 ≤ 1099511627776))) else (some false)) else (some false))
def net_Right.f (k : Nat) (l0_0 : List (S26)) (a0_1 : Int) : Option (Bool) := net_Right.l0 k l0_0 (l0_0.length : Int) 0 l0_0 a0_1
theorem net_Right.mono_l : ∀ k, (∀ y0 y1 y2 y3 y4, LeO (net_Right.l0 k y0 y1 y2 y3 y4) (net_Right.l0 (k + 1) y0 y1 y2 y3 y4))
  | 0 => fun _ _ _ _ _ r h => by simp [net_Right.l0] at h
  | k + 1 => by
    have ih0 := net_Right.mono_l k
    · intro y0 y1 y2 y3 y4
      unfold net_Right.l0
      repeat' first
      | (with_reducible exact ih0 _ _ _ _ _)
      | (with_reducible exact LeO.refl _)
      | (with_reducible exact LeO.none _)
      | (with_reducible refine LeO.ite ?_ ?_)
      | (with_reducible refine LeO.bind ?_ (fun _ => ?_))
      | exact ih0 _ _ _ _ _
      | exact LeO.none _
      | refine LeO.ite ?_ ?_
      | refine LeO.bind ?_ (fun _ => ?_)
theorem net_Right.mono : ∀ a0 a1 k, LeO (net_Right.f k a0 a1) (net_Right.f (k + 1) a0 a1) := by
  intro a0 a1 k
  have ih0 := net_Right.mono_l k
  unfold net_Right.f
  repeat' first
      | (with_reducible exact ih0 _ _ _ _ _)
      | (with_reducible exact LeO.refl _)
      | (with_reducible exact LeO.none _)
      | (with_reducible refine LeO.ite ?_ ?_)
      | (with_reducible refine LeO.bind ?_ (fun _ => ?_))
      | exact ih0 _ _ _ _ _
      | exact LeO.none _
      | refine LeO.ite ?_ ?_
      | refine LeO.bind ?_ (fun _ => ?_)
set_option maxHeartbeats 8000000 in
set_option maxRecDepth 100000 in
theorem net_Right.calls (k : Nat) (A0_0 : Option Addr) (c0_0 : Nat) (l0_0 : List (S26)) (a0_1 : Int) (r : Bool) (w : World) (hr0_0 : Kd.C k26 w A0_0 l0_0.length l0_0) (hc0_0 : l0_0.length ≤ c0_0) (h : net_Right.f k l0_0 a0_1 = some r) :
    Calls Try.prog 11 #[.agg #[.slice A0_0 l0_0.length c0_0, .int .i64 a0_1]] w fun e w' => e = .returned (.bool r) ∧ Below w.heap.size w w' := by
  have hu24 := Try.underlying24
  have hu26 := Try.underlying26
  have HR0_0 := Aside0.mk hr0_0
  have HC0_0 := Aside0.mk hc0_0
  clear hr0_0 hc0_0
  have HB := Aside0.mk (Below.refl w.heap.size w)
  have H : (net_Right.l0 k l0_0 (l0_0.length : Int) 0 l0_0 a0_1) = some r := h
  clear h
  have H' := Aside0.mk H
  clear H
  go_enter Try.func11, Try.ntmps11
  go_wp2_with (first | ((with_reducible refine gate_dst (N := 1) rfl ?_); refine box_event ?hg (N := 1) ?hd (cs := #[.slice A0_0 l0_0.length c0_0, .int .i64 a0_1]) (t := 24) ?hr ?_; (case hd => rfl); (case hg => rfl); (case hr => first | (go_simp; done) | (go_simp; rfl)); intro gb111 hg w2 hbox hb; have n0_ := hs_ HB hb; have n1_ := Aside0.mk (hbox); have n2_ := hz_ HB hg; have n3_ := hz_ HB hg; clear HB; have HB := n0_; have BK111 := n1_; have GW111 := n2_; have GE111 := n3_; clear n0_ n1_ n2_ n3_; clear hb hbox hg; have hcz3_0 : w2.cell? ⟨gb111, 0, none⟩ = some (.slice A0_0 l0_0.length c0_0) := (blk_cell BK111.out 0).trans rfl; have hcz3_1 : w2.cell? ⟨gb111, 1, none⟩ = some (.int .i64 a0_1) := (blk_cell BK111.out 1).trans rfl; have hfz3_0 := blk_frozen BK111.out 0; have hfz3_1 := blk_frozen BK111.out 1))
  go_loopg [8] k (fun kq v8 w' => ∃ (x8_1 : Int), v8 = .int .i64 x8_1 ∧ Aside0 (net_Right.l0 kq l0_0 (l0_0.length : Int) x8_1 l0_0 a0_1 = some r) ∧ Aside0 (kq ≤ k) ∧ Aside0 (w'.heap[gb111]? = some (.cells #[(.slice A0_0 l0_0.length c0_0), .int .i64 a0_1] 24 (0, 0))) ∧ Aside0 (Below w.heap.size w w'))
  case atStart => exact ⟨(0), (by first | rfl | (simp; done) | (simp [*]; done)), H', ⟨Nat.le_refl _⟩, ⟨by exact kk_ BK111⟩, ⟨by exact hh_ HB⟩⟩
  case round =>
    clear H'
    try clear c1
    try clear p2
    try clear hcz3_0
    try clear hcz3_1
    try clear hfz3_0
    try clear hfz3_1
    obtain ⟨x8_1, rfl, HA, HK1, BK111, HB⟩ := hrel
    cases gk with
    | zero => exact absurd HA.out (by simp [net_Right.l0])
    | succ k1 =>
      have H := HA.out
      clear HA
      simp only [net_Right.l0] at H
      by_cases c4 : x8_1 < (l0_0.length : Int)
      · rw [if_pos c4] at H
        have c4b0 : decide (x8_1 < (l0_0.length : Int)) = true := decide_eq_true c4
        clear c4
        by_cases c5 : 0 ≤ x8_1
        · rw [if_pos c5] at H
          have c5b0 : decide (0 ≤ x8_1) = true := decide_eq_true c5
          clear c5
          by_cases c6 : x8_1 < (l0_0.length : Int)
          · rw [if_pos c6] at H
            have c6b0 : decide (x8_1 < (l0_0.length : Int)) = true := decide_eq_true c6
            clear c6
            replace H := Option.bind_eq_some_iff.mp H
            obtain ⟨t114, A70, H⟩ := H
            replace H : (if t114 = true then (if ((rd_T26 l0_0 x8_1).f0) < 1 then (some false) else (if ((rd_T26 l0_0 x8_1).f0) > a0_1 then (some false) else (net_Right.l0 k1 l0_0 (l0_0.length : Int) (wrap64 (x8_1 + 1)) l0_0 a0_1))) else (some false)) = some r := H
            have A7 := Aside0.mk A70
            clear A70
            by_cases c8 : t114 = true
            · subst c8
              have H1 : (if ((rd_T26 l0_0 x8_1).f0) < 1 then (some false) else (if ((rd_T26 l0_0 x8_1).f0) > a0_1 then (some false) else (net_Right.l0 k1 l0_0 (l0_0.length : Int) (wrap64 (x8_1 + 1)) l0_0 a0_1))) = some r := by rw [if_pos rfl] at H; exact H
              clear H
              have H := H1
              clear H1
              by_cases c9 : ((rd_T26 l0_0 x8_1).f0) < 1
              · rw [if_pos c9] at H
                have c9b0 : decide (((rd_T26 l0_0 x8_1).f0) < 1) = true := decide_eq_true c9
                clear c9
                obtain rfl := Option.some.inj H
                have p112 : 0 ≤ (x8_1 : Int) := of_decide_eq_true (by first | (with_reducible assumption) | assumption)
                have q112 : x8_1 < (l0_0.length : Int) := of_decide_eq_true (by first | (with_reducible assumption) | assumption)
                obtain ⟨ad112, e112, hx112_0, hx112_1, hx112_2, hx112_3, hx112_4, hx112_5⟩ := at_T26 HR0_0.out x8_1 p112 q112
                cases e112
                replace hx112_0 := (HB.out.cell (World.block_lt_of_cell? w _ hx112_0)).trans hx112_0
                replace hx112_1 := (HB.out.cell (World.block_lt_of_cell? w _ hx112_1)).trans hx112_1
                replace hx112_2 := (HB.out.cell (World.block_lt_of_cell? w _ hx112_2)).trans hx112_2
                replace hx112_3 := (HB.out.cell (World.block_lt_of_cell? w _ hx112_3)).trans hx112_3
                replace hx112_4 := (HB.out.cell (World.block_lt_of_cell? w _ hx112_4)).trans hx112_4
                replace hx112_5 := (HB.out.cell (World.block_lt_of_cell? w _ hx112_5)).trans hx112_5
                replace p112 := eq_true p112
                replace q112 := eq_true q112
                go_wp2_with (first | ((with_reducible refine gate_dst (N := 4) rfl ?_); refine box_event ?hg (N := 4) ?hd (cs := #[.int .i64 0, .bool false, .int .i64 0, .int .i64 0, .int .i64 0, .bool false]) (t := 26) ?hr ?_; (case hd => rfl); (case hg => rfl); (case hr => first | (go_simp; done) | (go_simp; rfl)); intro gb113 hg w10 hbox hb; have n0_ := kb_ BK111 hb; have n1_ := hs_ HB hb; have n2_ := Aside0.mk (hbox); have n3_ := hz_ HB hg; have n4_ := hz_ HB hg; have n5_ := kn_ BK111 hg; have n6_ := kr_ BK111 hg; clear BK111; clear HB; have BK111 := n0_; have HB := n1_; have BK113 := n2_; have GW113 := n3_; have GE113 := n4_; have NB111_113 := n5_; have NB113_111 := n6_; clear n0_ n1_ n2_ n3_ n4_ n5_ n6_; clear hb hbox hg; have hnb11 := NB113_111.out; have hnc11 := NB111_113.out; have hcz12_0 : w10.cell? ⟨gb113, 0, none⟩ = some (.int .i64 0) := (blk_cell BK113.out 0).trans rfl; have hcz12_1 : w10.cell? ⟨gb113, 1, none⟩ = some (.bool false) := (blk_cell BK113.out 1).trans rfl; have hcz12_2 : w10.cell? ⟨gb113, 2, none⟩ = some (.int .i64 0) := (blk_cell BK113.out 2).trans rfl; have hcz12_3 : w10.cell? ⟨gb113, 3, none⟩ = some (.int .i64 0) := (blk_cell BK113.out 3).trans rfl; have hcz12_4 : w10.cell? ⟨gb113, 4, none⟩ = some (.int .i64 0) := (blk_cell BK113.out 4).trans rfl; have hcz12_5 : w10.cell? ⟨gb113, 5, none⟩ = some (.bool false) := (blk_cell BK113.out 5).trans rfl; have hfz12_0 := blk_frozen BK113.out 0; have hfz12_1 := blk_frozen BK113.out 1; have hfz12_2 := blk_frozen BK113.out 2; have hfz12_3 := blk_frozen BK113.out 3; have hfz12_4 := blk_frozen BK113.out 4; have hfz12_5 := blk_frozen BK113.out 5) | ((with_reducible refine gate_callee (f := 16) rfl ?_); refine goesL_ (some 13) rfl rfl Try.func16 (by kernel_rfl) rfl #[.agg #[.int .i64 ((rd_T26 l0_0 x8_1).f0), .bool ((rd_T26 l0_0 x8_1).f1), .int .i64 ((rd_T26 l0_0 x8_1).f2), .int .i64 ((rd_T26 l0_0 x8_1).f3), .int .i64 ((rd_T26 l0_0 x8_1).f4), .bool ((rd_T26 l0_0 x8_1).f5)]] rfl (by (try simp only [List.map_toArray, List.map_cons, List.map_nil]); first | done | rfl | (simp only [List.length_drop, List.length_take]; rfl)) ?_; (with_reducible refine (net_may.calls ((rd_T26 l0_0 x8_1).f0) ((rd_T26 l0_0 x8_1).f1) ((rd_T26 l0_0 x8_1).f2) ((rd_T26 l0_0 x8_1).f3) ((rd_T26 l0_0 x8_1).f4) ((rd_T26 l0_0 x8_1).f5) true _ A7.out).mono ?_); rintro e w13 ⟨rfl, hb⟩; refine ⟨_, rfl, ?_⟩; have n0_ := kb_ BK111 hb; have n1_ := Aside0.mk (blk_below (g := gb113) (o := .cells #[.int .i64 ((rd_T26 l0_0 x8_1).f0), .bool ((rd_T26 l0_0 x8_1).f1), .int .i64 ((rd_T26 l0_0 x8_1).f2), .int .i64 ((rd_T26 l0_0 x8_1).f3), .int .i64 ((rd_T26 l0_0 x8_1).f4), .bool ((rd_T26 l0_0 x8_1).f5)] 26 (0, 0)) (by (with_reducible repeat (first | refine blk_drewN ?_ _ | refine blk_drew ?_ | refine blk_alloc ?_ _)); refine blk_put (cs := #[.int .i64 ((rd_T26 l0_0 x8_1).f0), .bool ((rd_T26 l0_0 x8_1).f1), .int .i64 ((rd_T26 l0_0 x8_1).f2), .int .i64 ((rd_T26 l0_0 x8_1).f3), .int .i64 ((rd_T26 l0_0 x8_1).f4), .bool false]) ?_ 5 _ rfl; (with_reducible repeat (first | refine blk_drewN ?_ _ | refine blk_drew ?_ | refine blk_alloc ?_ _)); refine blk_put (cs := #[.int .i64 ((rd_T26 l0_0 x8_1).f0), .bool ((rd_T26 l0_0 x8_1).f1), .int .i64 ((rd_T26 l0_0 x8_1).f2), .int .i64 ((rd_T26 l0_0 x8_1).f3), .int .i64 0, .bool false]) ?_ 4 _ rfl; (with_reducible repeat (first | refine blk_drewN ?_ _ | refine blk_drew ?_ | refine blk_alloc ?_ _)); refine blk_put (cs := #[.int .i64 ((rd_T26 l0_0 x8_1).f0), .bool ((rd_T26 l0_0 x8_1).f1), .int .i64 ((rd_T26 l0_0 x8_1).f2), .int .i64 0, .int .i64 0, .bool false]) ?_ 3 _ rfl; (with_reducible repeat (first | refine blk_drewN ?_ _ | refine blk_drew ?_ | refine blk_alloc ?_ _)); refine blk_put (cs := #[.int .i64 ((rd_T26 l0_0 x8_1).f0), .bool ((rd_T26 l0_0 x8_1).f1), .int .i64 0, .int .i64 0, .int .i64 0, .bool false]) ?_ 2 _ rfl; (with_reducible repeat (first | refine blk_drewN ?_ _ | refine blk_drew ?_ | refine blk_alloc ?_ _)); refine blk_put (cs := #[.int .i64 ((rd_T26 l0_0 x8_1).f0), .bool false, .int .i64 0, .int .i64 0, .int .i64 0, .bool false]) ?_ 1 _ rfl; (with_reducible repeat (first | refine blk_drewN ?_ _ | refine blk_drew ?_ | refine blk_alloc ?_ _)); refine blk_put (cs := #[.int .i64 0, .bool false, .int .i64 0, .int .i64 0, .int .i64 0, .bool false]) ?_ 0 _ rfl; (with_reducible repeat (first | refine blk_drewN ?_ _ | refine blk_drew ?_ | refine blk_alloc ?_ _)); exact BK113.out) hb); have n2_ := hs_ HB hb; clear BK111; clear BK113; clear HB; have BK111 := n0_; have BK113 := n1_; have HB := n2_; clear n0_ n1_ n2_; (try clear hb); (try clear hb2); (try clear hk); (try clear hi); have hcz14_0 : w13.cell? ⟨gb113, 0, none⟩ = some (.int .i64 ((rd_T26 l0_0 x8_1).f0)) := (blk_cell BK113.out 0).trans rfl; have hcz14_1 : w13.cell? ⟨gb113, 1, none⟩ = some (.bool ((rd_T26 l0_0 x8_1).f1)) := (blk_cell BK113.out 1).trans rfl; have hcz14_2 : w13.cell? ⟨gb113, 2, none⟩ = some (.int .i64 ((rd_T26 l0_0 x8_1).f2)) := (blk_cell BK113.out 2).trans rfl; have hcz14_3 : w13.cell? ⟨gb113, 3, none⟩ = some (.int .i64 ((rd_T26 l0_0 x8_1).f3)) := (blk_cell BK113.out 3).trans rfl; have hcz14_4 : w13.cell? ⟨gb113, 4, none⟩ = some (.int .i64 ((rd_T26 l0_0 x8_1).f4)) := (blk_cell BK113.out 4).trans rfl; have hcz14_5 : w13.cell? ⟨gb113, 5, none⟩ = some (.bool ((rd_T26 l0_0 x8_1).f5)) := (blk_cell BK113.out 5).trans rfl; have hfz14_0 := blk_frozen BK113.out 0; have hfz14_1 := blk_frozen BK113.out 1; have hfz14_2 := blk_frozen BK113.out 2; have hfz14_3 := blk_frozen BK113.out 3; have hfz14_4 := blk_frozen BK113.out 4; have hfz14_5 := blk_frozen BK113.out 5))
                go_ret
                exact ⟨by first | rfl | (simp [errW_none, errW_some] <;> rfl) | (simp [*, errW_none, errW_some] <;> rfl), by repeat (first | (with_reducible first | exact HB.out | apply below_alloc | apply pw_below_drewN | apply below_drew1 | refine below_set ?_ GE111.out | refine below_set ?_ GE113.out) | exact HB.out)⟩
              · rw [if_neg c9] at H
                have c9b0 : decide (((rd_T26 l0_0 x8_1).f0) < 1) = false := decide_eq_false c9
                clear c9
                by_cases c15 : ((rd_T26 l0_0 x8_1).f0) > a0_1
                · rw [if_pos c15] at H
                  have c15b0 : decide (a0_1 < ((rd_T26 l0_0 x8_1).f0)) = true := decide_eq_true c15
                  clear c15
                  obtain rfl := Option.some.inj H
                  have p112 : 0 ≤ (x8_1 : Int) := of_decide_eq_true (by first | (with_reducible assumption) | assumption)
                  have q112 : x8_1 < (l0_0.length : Int) := of_decide_eq_true (by first | (with_reducible assumption) | assumption)
                  obtain ⟨ad112, e112, hx112_0, hx112_1, hx112_2, hx112_3, hx112_4, hx112_5⟩ := at_T26 HR0_0.out x8_1 p112 q112
                  cases e112
                  replace hx112_0 := (HB.out.cell (World.block_lt_of_cell? w _ hx112_0)).trans hx112_0
                  replace hx112_1 := (HB.out.cell (World.block_lt_of_cell? w _ hx112_1)).trans hx112_1
                  replace hx112_2 := (HB.out.cell (World.block_lt_of_cell? w _ hx112_2)).trans hx112_2
                  replace hx112_3 := (HB.out.cell (World.block_lt_of_cell? w _ hx112_3)).trans hx112_3
                  replace hx112_4 := (HB.out.cell (World.block_lt_of_cell? w _ hx112_4)).trans hx112_4
                  replace hx112_5 := (HB.out.cell (World.block_lt_of_cell? w _ hx112_5)).trans hx112_5
                  replace p112 := eq_true p112
                  replace q112 := eq_true q112
                  go_wp2_with (first | ((with_reducible refine gate_dst (N := 4) rfl ?_); refine box_event ?hg (N := 4) ?hd (cs := #[.int .i64 0, .bool false, .int .i64 0, .int .i64 0, .int .i64 0, .bool false]) (t := 26) ?hr ?_; (case hd => rfl); (case hg => rfl); (case hr => first | (go_simp; done) | (go_simp; rfl)); intro gb113 hg w16 hbox hb; have n0_ := kb_ BK111 hb; have n1_ := hs_ HB hb; have n2_ := Aside0.mk (hbox); have n3_ := hz_ HB hg; have n4_ := hz_ HB hg; have n5_ := kn_ BK111 hg; have n6_ := kr_ BK111 hg; clear BK111; clear HB; have BK111 := n0_; have HB := n1_; have BK113 := n2_; have GW113 := n3_; have GE113 := n4_; have NB111_113 := n5_; have NB113_111 := n6_; clear n0_ n1_ n2_ n3_ n4_ n5_ n6_; clear hb hbox hg; have hnb17 := NB113_111.out; have hnc17 := NB111_113.out; have hcz18_0 : w16.cell? ⟨gb113, 0, none⟩ = some (.int .i64 0) := (blk_cell BK113.out 0).trans rfl; have hcz18_1 : w16.cell? ⟨gb113, 1, none⟩ = some (.bool false) := (blk_cell BK113.out 1).trans rfl; have hcz18_2 : w16.cell? ⟨gb113, 2, none⟩ = some (.int .i64 0) := (blk_cell BK113.out 2).trans rfl; have hcz18_3 : w16.cell? ⟨gb113, 3, none⟩ = some (.int .i64 0) := (blk_cell BK113.out 3).trans rfl; have hcz18_4 : w16.cell? ⟨gb113, 4, none⟩ = some (.int .i64 0) := (blk_cell BK113.out 4).trans rfl; have hcz18_5 : w16.cell? ⟨gb113, 5, none⟩ = some (.bool false) := (blk_cell BK113.out 5).trans rfl; have hfz18_0 := blk_frozen BK113.out 0; have hfz18_1 := blk_frozen BK113.out 1; have hfz18_2 := blk_frozen BK113.out 2; have hfz18_3 := blk_frozen BK113.out 3; have hfz18_4 := blk_frozen BK113.out 4; have hfz18_5 := blk_frozen BK113.out 5) | ((with_reducible refine gate_callee (f := 16) rfl ?_); refine goesL_ (some 13) rfl rfl Try.func16 (by kernel_rfl) rfl #[.agg #[.int .i64 ((rd_T26 l0_0 x8_1).f0), .bool ((rd_T26 l0_0 x8_1).f1), .int .i64 ((rd_T26 l0_0 x8_1).f2), .int .i64 ((rd_T26 l0_0 x8_1).f3), .int .i64 ((rd_T26 l0_0 x8_1).f4), .bool ((rd_T26 l0_0 x8_1).f5)]] rfl (by (try simp only [List.map_toArray, List.map_cons, List.map_nil]); first | done | rfl | (simp only [List.length_drop, List.length_take]; rfl)) ?_; (with_reducible refine (net_may.calls ((rd_T26 l0_0 x8_1).f0) ((rd_T26 l0_0 x8_1).f1) ((rd_T26 l0_0 x8_1).f2) ((rd_T26 l0_0 x8_1).f3) ((rd_T26 l0_0 x8_1).f4) ((rd_T26 l0_0 x8_1).f5) true _ A7.out).mono ?_); rintro e w19 ⟨rfl, hb⟩; refine ⟨_, rfl, ?_⟩; have n0_ := kb_ BK111 hb; have n1_ := Aside0.mk (blk_below (g := gb113) (o := .cells #[.int .i64 ((rd_T26 l0_0 x8_1).f0), .bool ((rd_T26 l0_0 x8_1).f1), .int .i64 ((rd_T26 l0_0 x8_1).f2), .int .i64 ((rd_T26 l0_0 x8_1).f3), .int .i64 ((rd_T26 l0_0 x8_1).f4), .bool ((rd_T26 l0_0 x8_1).f5)] 26 (0, 0)) (by (with_reducible repeat (first | refine blk_drewN ?_ _ | refine blk_drew ?_ | refine blk_alloc ?_ _)); refine blk_put (cs := #[.int .i64 ((rd_T26 l0_0 x8_1).f0), .bool ((rd_T26 l0_0 x8_1).f1), .int .i64 ((rd_T26 l0_0 x8_1).f2), .int .i64 ((rd_T26 l0_0 x8_1).f3), .int .i64 ((rd_T26 l0_0 x8_1).f4), .bool false]) ?_ 5 _ rfl; (with_reducible repeat (first | refine blk_drewN ?_ _ | refine blk_drew ?_ | refine blk_alloc ?_ _)); refine blk_put (cs := #[.int .i64 ((rd_T26 l0_0 x8_1).f0), .bool ((rd_T26 l0_0 x8_1).f1), .int .i64 ((rd_T26 l0_0 x8_1).f2), .int .i64 ((rd_T26 l0_0 x8_1).f3), .int .i64 0, .bool false]) ?_ 4 _ rfl; (with_reducible repeat (first | refine blk_drewN ?_ _ | refine blk_drew ?_ | refine blk_alloc ?_ _)); refine blk_put (cs := #[.int .i64 ((rd_T26 l0_0 x8_1).f0), .bool ((rd_T26 l0_0 x8_1).f1), .int .i64 ((rd_T26 l0_0 x8_1).f2), .int .i64 0, .int .i64 0, .bool false]) ?_ 3 _ rfl; (with_reducible repeat (first | refine blk_drewN ?_ _ | refine blk_drew ?_ | refine blk_alloc ?_ _)); refine blk_put (cs := #[.int .i64 ((rd_T26 l0_0 x8_1).f0), .bool ((rd_T26 l0_0 x8_1).f1), .int .i64 0, .int .i64 0, .int .i64 0, .bool false]) ?_ 2 _ rfl; (with_reducible repeat (first | refine blk_drewN ?_ _ | refine blk_drew ?_ | refine blk_alloc ?_ _)); refine blk_put (cs := #[.int .i64 ((rd_T26 l0_0 x8_1).f0), .bool false, .int .i64 0, .int .i64 0, .int .i64 0, .bool false]) ?_ 1 _ rfl; (with_reducible repeat (first | refine blk_drewN ?_ _ | refine blk_drew ?_ | refine blk_alloc ?_ _)); refine blk_put (cs := #[.int .i64 0, .bool false, .int .i64 0, .int .i64 0, .int .i64 0, .bool false]) ?_ 0 _ rfl; (with_reducible repeat (first | refine blk_drewN ?_ _ | refine blk_drew ?_ | refine blk_alloc ?_ _)); exact BK113.out) hb); have n2_ := hs_ HB hb; clear BK111; clear BK113; clear HB; have BK111 := n0_; have BK113 := n1_; have HB := n2_; clear n0_ n1_ n2_; (try clear hb); (try clear hb2); (try clear hk); (try clear hi); have hcz20_0 : w19.cell? ⟨gb113, 0, none⟩ = some (.int .i64 ((rd_T26 l0_0 x8_1).f0)) := (blk_cell BK113.out 0).trans rfl; have hcz20_1 : w19.cell? ⟨gb113, 1, none⟩ = some (.bool ((rd_T26 l0_0 x8_1).f1)) := (blk_cell BK113.out 1).trans rfl; have hcz20_2 : w19.cell? ⟨gb113, 2, none⟩ = some (.int .i64 ((rd_T26 l0_0 x8_1).f2)) := (blk_cell BK113.out 2).trans rfl; have hcz20_3 : w19.cell? ⟨gb113, 3, none⟩ = some (.int .i64 ((rd_T26 l0_0 x8_1).f3)) := (blk_cell BK113.out 3).trans rfl; have hcz20_4 : w19.cell? ⟨gb113, 4, none⟩ = some (.int .i64 ((rd_T26 l0_0 x8_1).f4)) := (blk_cell BK113.out 4).trans rfl; have hcz20_5 : w19.cell? ⟨gb113, 5, none⟩ = some (.bool ((rd_T26 l0_0 x8_1).f5)) := (blk_cell BK113.out 5).trans rfl; have hfz20_0 := blk_frozen BK113.out 0; have hfz20_1 := blk_frozen BK113.out 1; have hfz20_2 := blk_frozen BK113.out 2; have hfz20_3 := blk_frozen BK113.out 3; have hfz20_4 := blk_frozen BK113.out 4; have hfz20_5 := blk_frozen BK113.out 5; have hcz21_0 : w19.cell? ⟨gb111, 0, none⟩ = some (.slice (some ad112) l0_0.length c0_0) := (blk_cell BK111.out 0).trans rfl; have hcz21_1 : w19.cell? ⟨gb111, 1, none⟩ = some (.int .i64 a0_1) := (blk_cell BK111.out 1).trans rfl; have hfz21_0 := blk_frozen BK111.out 0; have hfz21_1 := blk_frozen BK111.out 1))
                  go_ret
                  exact ⟨by first | rfl | (simp [errW_none, errW_some] <;> rfl) | (simp [*, errW_none, errW_some] <;> rfl), by repeat (first | (with_reducible first | exact HB.out | apply below_alloc | apply pw_below_drewN | apply below_drew1 | refine below_set ?_ GE111.out | refine below_set ?_ GE113.out) | exact HB.out)⟩
                · rw [if_neg c15] at H
                  have c15b0 : decide (a0_1 < ((rd_T26 l0_0 x8_1).f0)) = false := decide_eq_false c15
                  clear c15
                  have H' := Aside0.mk H
                  clear H
                  have p112 : 0 ≤ (x8_1 : Int) := of_decide_eq_true (by first | (with_reducible assumption) | assumption)
                  have q112 : x8_1 < (l0_0.length : Int) := of_decide_eq_true (by first | (with_reducible assumption) | assumption)
                  obtain ⟨ad112, e112, hx112_0, hx112_1, hx112_2, hx112_3, hx112_4, hx112_5⟩ := at_T26 HR0_0.out x8_1 p112 q112
                  cases e112
                  replace hx112_0 := (HB.out.cell (World.block_lt_of_cell? w _ hx112_0)).trans hx112_0
                  replace hx112_1 := (HB.out.cell (World.block_lt_of_cell? w _ hx112_1)).trans hx112_1
                  replace hx112_2 := (HB.out.cell (World.block_lt_of_cell? w _ hx112_2)).trans hx112_2
                  replace hx112_3 := (HB.out.cell (World.block_lt_of_cell? w _ hx112_3)).trans hx112_3
                  replace hx112_4 := (HB.out.cell (World.block_lt_of_cell? w _ hx112_4)).trans hx112_4
                  replace hx112_5 := (HB.out.cell (World.block_lt_of_cell? w _ hx112_5)).trans hx112_5
                  replace p112 := eq_true p112
                  replace q112 := eq_true q112
                  go_wp2_with (first | ((with_reducible refine gate_dst (N := 4) rfl ?_); refine box_event ?hg (N := 4) ?hd (cs := #[.int .i64 0, .bool false, .int .i64 0, .int .i64 0, .int .i64 0, .bool false]) (t := 26) ?hr ?_; (case hd => rfl); (case hg => rfl); (case hr => first | (go_simp; done) | (go_simp; rfl)); intro gb113 hg w22 hbox hb; have n0_ := kb_ BK111 hb; have n1_ := hs_ HB hb; have n2_ := Aside0.mk (hbox); have n3_ := hz_ HB hg; have n4_ := hz_ HB hg; have n5_ := kn_ BK111 hg; have n6_ := kr_ BK111 hg; clear BK111; clear HB; have BK111 := n0_; have HB := n1_; have BK113 := n2_; have GW113 := n3_; have GE113 := n4_; have NB111_113 := n5_; have NB113_111 := n6_; clear n0_ n1_ n2_ n3_ n4_ n5_ n6_; clear hb hbox hg; have hnb23 := NB113_111.out; have hnc23 := NB111_113.out; have hcz24_0 : w22.cell? ⟨gb113, 0, none⟩ = some (.int .i64 0) := (blk_cell BK113.out 0).trans rfl; have hcz24_1 : w22.cell? ⟨gb113, 1, none⟩ = some (.bool false) := (blk_cell BK113.out 1).trans rfl; have hcz24_2 : w22.cell? ⟨gb113, 2, none⟩ = some (.int .i64 0) := (blk_cell BK113.out 2).trans rfl; have hcz24_3 : w22.cell? ⟨gb113, 3, none⟩ = some (.int .i64 0) := (blk_cell BK113.out 3).trans rfl; have hcz24_4 : w22.cell? ⟨gb113, 4, none⟩ = some (.int .i64 0) := (blk_cell BK113.out 4).trans rfl; have hcz24_5 : w22.cell? ⟨gb113, 5, none⟩ = some (.bool false) := (blk_cell BK113.out 5).trans rfl; have hfz24_0 := blk_frozen BK113.out 0; have hfz24_1 := blk_frozen BK113.out 1; have hfz24_2 := blk_frozen BK113.out 2; have hfz24_3 := blk_frozen BK113.out 3; have hfz24_4 := blk_frozen BK113.out 4; have hfz24_5 := blk_frozen BK113.out 5) | ((with_reducible refine gate_callee (f := 16) rfl ?_); refine goesL_ (some 13) rfl rfl Try.func16 (by kernel_rfl) rfl #[.agg #[.int .i64 ((rd_T26 l0_0 x8_1).f0), .bool ((rd_T26 l0_0 x8_1).f1), .int .i64 ((rd_T26 l0_0 x8_1).f2), .int .i64 ((rd_T26 l0_0 x8_1).f3), .int .i64 ((rd_T26 l0_0 x8_1).f4), .bool ((rd_T26 l0_0 x8_1).f5)]] rfl (by (try simp only [List.map_toArray, List.map_cons, List.map_nil]); first | done | rfl | (simp only [List.length_drop, List.length_take]; rfl)) ?_; (with_reducible refine (net_may.calls ((rd_T26 l0_0 x8_1).f0) ((rd_T26 l0_0 x8_1).f1) ((rd_T26 l0_0 x8_1).f2) ((rd_T26 l0_0 x8_1).f3) ((rd_T26 l0_0 x8_1).f4) ((rd_T26 l0_0 x8_1).f5) true _ A7.out).mono ?_); rintro e w25 ⟨rfl, hb⟩; refine ⟨_, rfl, ?_⟩; have n0_ := kb_ BK111 hb; have n1_ := Aside0.mk (blk_below (g := gb113) (o := .cells #[.int .i64 ((rd_T26 l0_0 x8_1).f0), .bool ((rd_T26 l0_0 x8_1).f1), .int .i64 ((rd_T26 l0_0 x8_1).f2), .int .i64 ((rd_T26 l0_0 x8_1).f3), .int .i64 ((rd_T26 l0_0 x8_1).f4), .bool ((rd_T26 l0_0 x8_1).f5)] 26 (0, 0)) (by (with_reducible repeat (first | refine blk_drewN ?_ _ | refine blk_drew ?_ | refine blk_alloc ?_ _)); refine blk_put (cs := #[.int .i64 ((rd_T26 l0_0 x8_1).f0), .bool ((rd_T26 l0_0 x8_1).f1), .int .i64 ((rd_T26 l0_0 x8_1).f2), .int .i64 ((rd_T26 l0_0 x8_1).f3), .int .i64 ((rd_T26 l0_0 x8_1).f4), .bool false]) ?_ 5 _ rfl; (with_reducible repeat (first | refine blk_drewN ?_ _ | refine blk_drew ?_ | refine blk_alloc ?_ _)); refine blk_put (cs := #[.int .i64 ((rd_T26 l0_0 x8_1).f0), .bool ((rd_T26 l0_0 x8_1).f1), .int .i64 ((rd_T26 l0_0 x8_1).f2), .int .i64 ((rd_T26 l0_0 x8_1).f3), .int .i64 0, .bool false]) ?_ 4 _ rfl; (with_reducible repeat (first | refine blk_drewN ?_ _ | refine blk_drew ?_ | refine blk_alloc ?_ _)); refine blk_put (cs := #[.int .i64 ((rd_T26 l0_0 x8_1).f0), .bool ((rd_T26 l0_0 x8_1).f1), .int .i64 ((rd_T26 l0_0 x8_1).f2), .int .i64 0, .int .i64 0, .bool false]) ?_ 3 _ rfl; (with_reducible repeat (first | refine blk_drewN ?_ _ | refine blk_drew ?_ | refine blk_alloc ?_ _)); refine blk_put (cs := #[.int .i64 ((rd_T26 l0_0 x8_1).f0), .bool ((rd_T26 l0_0 x8_1).f1), .int .i64 0, .int .i64 0, .int .i64 0, .bool false]) ?_ 2 _ rfl; (with_reducible repeat (first | refine blk_drewN ?_ _ | refine blk_drew ?_ | refine blk_alloc ?_ _)); refine blk_put (cs := #[.int .i64 ((rd_T26 l0_0 x8_1).f0), .bool false, .int .i64 0, .int .i64 0, .int .i64 0, .bool false]) ?_ 1 _ rfl; (with_reducible repeat (first | refine blk_drewN ?_ _ | refine blk_drew ?_ | refine blk_alloc ?_ _)); refine blk_put (cs := #[.int .i64 0, .bool false, .int .i64 0, .int .i64 0, .int .i64 0, .bool false]) ?_ 0 _ rfl; (with_reducible repeat (first | refine blk_drewN ?_ _ | refine blk_drew ?_ | refine blk_alloc ?_ _)); exact BK113.out) hb); have n2_ := hs_ HB hb; clear BK111; clear BK113; clear HB; have BK111 := n0_; have BK113 := n1_; have HB := n2_; clear n0_ n1_ n2_; (try clear hb); (try clear hb2); (try clear hk); (try clear hi); have hcz26_0 : w25.cell? ⟨gb113, 0, none⟩ = some (.int .i64 ((rd_T26 l0_0 x8_1).f0)) := (blk_cell BK113.out 0).trans rfl; have hcz26_1 : w25.cell? ⟨gb113, 1, none⟩ = some (.bool ((rd_T26 l0_0 x8_1).f1)) := (blk_cell BK113.out 1).trans rfl; have hcz26_2 : w25.cell? ⟨gb113, 2, none⟩ = some (.int .i64 ((rd_T26 l0_0 x8_1).f2)) := (blk_cell BK113.out 2).trans rfl; have hcz26_3 : w25.cell? ⟨gb113, 3, none⟩ = some (.int .i64 ((rd_T26 l0_0 x8_1).f3)) := (blk_cell BK113.out 3).trans rfl; have hcz26_4 : w25.cell? ⟨gb113, 4, none⟩ = some (.int .i64 ((rd_T26 l0_0 x8_1).f4)) := (blk_cell BK113.out 4).trans rfl; have hcz26_5 : w25.cell? ⟨gb113, 5, none⟩ = some (.bool ((rd_T26 l0_0 x8_1).f5)) := (blk_cell BK113.out 5).trans rfl; have hfz26_0 := blk_frozen BK113.out 0; have hfz26_1 := blk_frozen BK113.out 1; have hfz26_2 := blk_frozen BK113.out 2; have hfz26_3 := blk_frozen BK113.out 3; have hfz26_4 := blk_frozen BK113.out 4; have hfz26_5 := blk_frozen BK113.out 5; have hcz27_0 : w25.cell? ⟨gb111, 0, none⟩ = some (.slice (some ad112) l0_0.length c0_0) := (blk_cell BK111.out 0).trans rfl; have hcz27_1 : w25.cell? ⟨gb111, 1, none⟩ = some (.int .i64 a0_1) := (blk_cell BK111.out 1).trans rfl; have hfz27_0 := blk_frozen BK111.out 0; have hfz27_1 := blk_frozen BK111.out 1))
                  go_roundg k1
                  case measure => have := HK1.out; omega
                  case rel => exact ⟨(wrap64 (x8_1 + 1)), (by first | rfl | (simp; done) | (simp [*]; done)), H', ⟨by have := HK1.out; omega⟩, ⟨by exact kk_ BK111⟩, ⟨by exact hh_ HB⟩⟩
            · replace c8 := Bool.eq_false_iff.mpr c8
              subst c8
              have H1 : (some false) = some r := by rw [if_neg (show ¬ (false = true) by decide)] at H; exact H
              clear H
              have H := H1
              clear H1
              obtain rfl := Option.some.inj H
              have p112 : 0 ≤ (x8_1 : Int) := of_decide_eq_true (by first | (with_reducible assumption) | assumption)
              have q112 : x8_1 < (l0_0.length : Int) := of_decide_eq_true (by first | (with_reducible assumption) | assumption)
              obtain ⟨ad112, e112, hx112_0, hx112_1, hx112_2, hx112_3, hx112_4, hx112_5⟩ := at_T26 HR0_0.out x8_1 p112 q112
              cases e112
              replace hx112_0 := (HB.out.cell (World.block_lt_of_cell? w _ hx112_0)).trans hx112_0
              replace hx112_1 := (HB.out.cell (World.block_lt_of_cell? w _ hx112_1)).trans hx112_1
              replace hx112_2 := (HB.out.cell (World.block_lt_of_cell? w _ hx112_2)).trans hx112_2
              replace hx112_3 := (HB.out.cell (World.block_lt_of_cell? w _ hx112_3)).trans hx112_3
              replace hx112_4 := (HB.out.cell (World.block_lt_of_cell? w _ hx112_4)).trans hx112_4
              replace hx112_5 := (HB.out.cell (World.block_lt_of_cell? w _ hx112_5)).trans hx112_5
              replace p112 := eq_true p112
              replace q112 := eq_true q112
              go_wp2_with (first | ((with_reducible refine gate_dst (N := 4) rfl ?_); refine box_event ?hg (N := 4) ?hd (cs := #[.int .i64 0, .bool false, .int .i64 0, .int .i64 0, .int .i64 0, .bool false]) (t := 26) ?hr ?_; (case hd => rfl); (case hg => rfl); (case hr => first | (go_simp; done) | (go_simp; rfl)); intro gb113 hg w28 hbox hb; have n0_ := kb_ BK111 hb; have n1_ := hs_ HB hb; have n2_ := Aside0.mk (hbox); have n3_ := hz_ HB hg; have n4_ := hz_ HB hg; have n5_ := kn_ BK111 hg; have n6_ := kr_ BK111 hg; clear BK111; clear HB; have BK111 := n0_; have HB := n1_; have BK113 := n2_; have GW113 := n3_; have GE113 := n4_; have NB111_113 := n5_; have NB113_111 := n6_; clear n0_ n1_ n2_ n3_ n4_ n5_ n6_; clear hb hbox hg; have hnb29 := NB113_111.out; have hnc29 := NB111_113.out; have hcz30_0 : w28.cell? ⟨gb113, 0, none⟩ = some (.int .i64 0) := (blk_cell BK113.out 0).trans rfl; have hcz30_1 : w28.cell? ⟨gb113, 1, none⟩ = some (.bool false) := (blk_cell BK113.out 1).trans rfl; have hcz30_2 : w28.cell? ⟨gb113, 2, none⟩ = some (.int .i64 0) := (blk_cell BK113.out 2).trans rfl; have hcz30_3 : w28.cell? ⟨gb113, 3, none⟩ = some (.int .i64 0) := (blk_cell BK113.out 3).trans rfl; have hcz30_4 : w28.cell? ⟨gb113, 4, none⟩ = some (.int .i64 0) := (blk_cell BK113.out 4).trans rfl; have hcz30_5 : w28.cell? ⟨gb113, 5, none⟩ = some (.bool false) := (blk_cell BK113.out 5).trans rfl; have hfz30_0 := blk_frozen BK113.out 0; have hfz30_1 := blk_frozen BK113.out 1; have hfz30_2 := blk_frozen BK113.out 2; have hfz30_3 := blk_frozen BK113.out 3; have hfz30_4 := blk_frozen BK113.out 4; have hfz30_5 := blk_frozen BK113.out 5) | ((with_reducible refine gate_callee (f := 16) rfl ?_); refine goesL_ (some 13) rfl rfl Try.func16 (by kernel_rfl) rfl #[.agg #[.int .i64 ((rd_T26 l0_0 x8_1).f0), .bool ((rd_T26 l0_0 x8_1).f1), .int .i64 ((rd_T26 l0_0 x8_1).f2), .int .i64 ((rd_T26 l0_0 x8_1).f3), .int .i64 ((rd_T26 l0_0 x8_1).f4), .bool ((rd_T26 l0_0 x8_1).f5)]] rfl (by (try simp only [List.map_toArray, List.map_cons, List.map_nil]); first | done | rfl | (simp only [List.length_drop, List.length_take]; rfl)) ?_; (with_reducible refine (net_may.calls ((rd_T26 l0_0 x8_1).f0) ((rd_T26 l0_0 x8_1).f1) ((rd_T26 l0_0 x8_1).f2) ((rd_T26 l0_0 x8_1).f3) ((rd_T26 l0_0 x8_1).f4) ((rd_T26 l0_0 x8_1).f5) false _ A7.out).mono ?_); rintro e w31 ⟨rfl, hb⟩; refine ⟨_, rfl, ?_⟩; have n0_ := kb_ BK111 hb; have n1_ := Aside0.mk (blk_below (g := gb113) (o := .cells #[.int .i64 ((rd_T26 l0_0 x8_1).f0), .bool ((rd_T26 l0_0 x8_1).f1), .int .i64 ((rd_T26 l0_0 x8_1).f2), .int .i64 ((rd_T26 l0_0 x8_1).f3), .int .i64 ((rd_T26 l0_0 x8_1).f4), .bool ((rd_T26 l0_0 x8_1).f5)] 26 (0, 0)) (by (with_reducible repeat (first | refine blk_drewN ?_ _ | refine blk_drew ?_ | refine blk_alloc ?_ _)); refine blk_put (cs := #[.int .i64 ((rd_T26 l0_0 x8_1).f0), .bool ((rd_T26 l0_0 x8_1).f1), .int .i64 ((rd_T26 l0_0 x8_1).f2), .int .i64 ((rd_T26 l0_0 x8_1).f3), .int .i64 ((rd_T26 l0_0 x8_1).f4), .bool false]) ?_ 5 _ rfl; (with_reducible repeat (first | refine blk_drewN ?_ _ | refine blk_drew ?_ | refine blk_alloc ?_ _)); refine blk_put (cs := #[.int .i64 ((rd_T26 l0_0 x8_1).f0), .bool ((rd_T26 l0_0 x8_1).f1), .int .i64 ((rd_T26 l0_0 x8_1).f2), .int .i64 ((rd_T26 l0_0 x8_1).f3), .int .i64 0, .bool false]) ?_ 4 _ rfl; (with_reducible repeat (first | refine blk_drewN ?_ _ | refine blk_drew ?_ | refine blk_alloc ?_ _)); refine blk_put (cs := #[.int .i64 ((rd_T26 l0_0 x8_1).f0), .bool ((rd_T26 l0_0 x8_1).f1), .int .i64 ((rd_T26 l0_0 x8_1).f2), .int .i64 0, .int .i64 0, .bool false]) ?_ 3 _ rfl; (with_reducible repeat (first | refine blk_drewN ?_ _ | refine blk_drew ?_ | refine blk_alloc ?_ _)); refine blk_put (cs := #[.int .i64 ((rd_T26 l0_0 x8_1).f0), .bool ((rd_T26 l0_0 x8_1).f1), .int .i64 0, .int .i64 0, .int .i64 0, .bool false]) ?_ 2 _ rfl; (with_reducible repeat (first | refine blk_drewN ?_ _ | refine blk_drew ?_ | refine blk_alloc ?_ _)); refine blk_put (cs := #[.int .i64 ((rd_T26 l0_0 x8_1).f0), .bool false, .int .i64 0, .int .i64 0, .int .i64 0, .bool false]) ?_ 1 _ rfl; (with_reducible repeat (first | refine blk_drewN ?_ _ | refine blk_drew ?_ | refine blk_alloc ?_ _)); refine blk_put (cs := #[.int .i64 0, .bool false, .int .i64 0, .int .i64 0, .int .i64 0, .bool false]) ?_ 0 _ rfl; (with_reducible repeat (first | refine blk_drewN ?_ _ | refine blk_drew ?_ | refine blk_alloc ?_ _)); exact BK113.out) hb); have n2_ := hs_ HB hb; clear BK111; clear BK113; clear HB; have BK111 := n0_; have BK113 := n1_; have HB := n2_; clear n0_ n1_ n2_; (try clear hb); (try clear hb2); (try clear hk); (try clear hi)))
              go_ret
              exact ⟨by first | rfl | (simp [errW_none, errW_some] <;> rfl) | (simp [*, errW_none, errW_some] <;> rfl), by repeat (first | (with_reducible first | exact HB.out | apply below_alloc | apply pw_below_drewN | apply below_drew1 | refine below_set ?_ GE111.out | refine below_set ?_ GE113.out) | exact HB.out)⟩
          · rw [if_neg c6] at H
            exact absurd H (by simp)
        · rw [if_neg c5] at H
          exact absurd H (by simp)
      · rw [if_neg c4] at H
        have c4b0 : decide (x8_1 < (l0_0.length : Int)) = false := decide_eq_false c4
        clear c4
        by_cases c32 : (l0_0.length : Int) ≤ 64
        · rw [if_pos c32] at H
          have c32b0 : decide ((l0_0.length : Int) ≤ 64) = true := decide_eq_true c32
          have c32b1 : decide (l0_0.length ≤ 64) = true := decide_eq_true (by omega)
          clear c32
          by_cases c33 : a0_1 ≥ 0
          · rw [if_pos c33] at H
            have c33b0 : decide (0 ≤ a0_1) = true := decide_eq_true c33
            clear c33
            obtain rfl := Option.some.inj H
            have hcz34_0 : wr.cell? ⟨gb111, 0, none⟩ = some (.slice A0_0 l0_0.length c0_0) := (blk_cell BK111.out 0).trans rfl
            have hcz34_1 : wr.cell? ⟨gb111, 1, none⟩ = some (.int .i64 a0_1) := (blk_cell BK111.out 1).trans rfl
            have hfz34_0 := blk_frozen BK111.out 0
            have hfz34_1 := blk_frozen BK111.out 1
            go_wp2
            go_ret
            exact ⟨by first | rfl | (simp [errW_none, errW_some] <;> rfl) | (simp [*, errW_none, errW_some] <;> rfl), by repeat (first | (with_reducible first | exact HB.out | apply below_alloc | apply pw_below_drewN | apply below_drew1 | refine below_set ?_ GE111.out) | exact HB.out)⟩
          · rw [if_neg c33] at H
            have c33b0 : decide (0 ≤ a0_1) = false := decide_eq_false c33
            clear c33
            obtain rfl := Option.some.inj H
            have hcz35_0 : wr.cell? ⟨gb111, 0, none⟩ = some (.slice A0_0 l0_0.length c0_0) := (blk_cell BK111.out 0).trans rfl
            have hcz35_1 : wr.cell? ⟨gb111, 1, none⟩ = some (.int .i64 a0_1) := (blk_cell BK111.out 1).trans rfl
            have hfz35_0 := blk_frozen BK111.out 0
            have hfz35_1 := blk_frozen BK111.out 1
            go_wp2
            go_ret
            exact ⟨by first | rfl | (simp [errW_none, errW_some] <;> rfl) | (simp [*, errW_none, errW_some] <;> rfl), by repeat (first | (with_reducible first | exact HB.out | apply below_alloc | apply pw_below_drewN | apply below_drew1 | refine below_set ?_ GE111.out) | exact HB.out)⟩
        · rw [if_neg c32] at H
          have c32b0 : decide ((l0_0.length : Int) ≤ 64) = false := decide_eq_false c32
          have c32b1 : decide (l0_0.length ≤ 64) = false := decide_eq_false (by omega)
          clear c32
          obtain rfl := Option.some.inj H
          have hcz36_0 : wr.cell? ⟨gb111, 0, none⟩ = some (.slice A0_0 l0_0.length c0_0) := (blk_cell BK111.out 0).trans rfl
          have hcz36_1 : wr.cell? ⟨gb111, 1, none⟩ = some (.int .i64 a0_1) := (blk_cell BK111.out 1).trans rfl
          have hfz36_0 := blk_frozen BK111.out 0
          have hfz36_1 := blk_frozen BK111.out 1
          go_wp2
          go_ret
          exact ⟨by first | rfl | (simp [errW_none, errW_some] <;> rfl) | (simp [*, errW_none, errW_some] <;> rfl), by repeat (first | (with_reducible first | exact HB.out | apply below_alloc | apply pw_below_drewN | apply below_drew1 | refine below_set ?_ GE111.out) | exact HB.out)⟩

end Go.Proofs.Ytjghhdnecilcfaa.PNetTurns
