/- Written by a program of this repo over the kit's print program: what the program's functions do, each as a Lean function, shown of the loaded code; or a statement's row over that; no condition of its own. -/
import Derived.Test.YtoiihpmncphplaaPGoodsUnitsx0
import Derived.Test.YtoiihpmncphplaaPGoodsUnitsx1
import Derived.Test.YtoiihpmncphplaaPGoodsUnitsx2
namespace Go.Proofs.Ytoiihpmncphplaa.PGoodsUnits
open Go.RowKit Go.Proofs.YtoiihpmncphplaaW.PrintWords Go.Proofs.YtoiihpmncphplaaW.PrintLast Go.Proofs.YtoiihpmncphplaaW.PrintMore
attribute [local go_sem] max2_int min2_int max_two min_two max_three min_three max_four min_four   -- for this text's walks alone
set_option linter.unusedVariables false
set_option linter.unusedSimpArgs false

/-! ### tarrylaw07_GoodsUnits: function 3 -/
def tarrylaw07_GoodsUnits.j0 : Nat → Int → Int → Int → Bool → ByteArray → ByteArray → Int → Int → Int → Option (Bool)
  | 0, _, _, _, _, _, _, _, _, _ => none
  | k + 1, x1, x5, x6, x25, x122000, x122001, x122002, x122003, x122004 => if x25 = true then ((tarrylaw07_alive.f k).bind fun t130 => (if t130 = true then (if x6 = 1 then (some (x5 == 0)) else (some false)) else (some false))) else ((tarryref07_Units.f x122000 x122001 x122002 x122003 x122004 x1).bind fun t131 => (if t131 > 1073741824 then ((tarrylaw07_alive.f k).bind fun t132 => (if t132 = true then (if x6 = 2 then (some (x5 == 0)) else (some false)) else (some false))) else ((tarrylaw07_alive.f k).bind fun t133 => (if t133 = true then (if x6 = 0 then ((tarryref07_Units.f x122000 x122001 x122002 x122003 x122004 x1).bind fun t134 => (if x5 = t134 then (if (wrap64 (x5 * x122004)) ≥ (wrap64 (x1 * x122003)) then (if (wrap64 ((wrap64 (x5 - 1)) * x122004)) < (wrap64 (x1 * x122003)) then (some (decide (x5 ≥ 1))) else (some false)) else (some false)) else (some false))) else (some false)) else (some false)))))
def tarrylaw07_GoodsUnits.f (k : Nat) (a0_0 : ByteArray) (a0_1 : ByteArray) (a0_2 : Int) (a0_3 : Int) (a0_4 : Int) (a1 : Int) : Option (Bool) := (tarrylaw07_cut.f a0_0 a0_1 a0_2 a0_3 a0_4).bind fun bt122 => ((goods_Units.f k bt122.1 bt122.2.1 bt122.2.2.1 bt122.2.2.2.1 bt122.2.2.2.2 a1).bind fun bt127 => ((tarryref07_May.f k bt122.1 bt122.2.1 bt122.2.2.1 bt122.2.2.2.1 bt122.2.2.2.2).bind fun t129 => (if t129 = true then (if a1 < 1 then (tarrylaw07_GoodsUnits.j0 k a1 bt127.1 bt127.2 true bt122.1 bt122.2.1 bt122.2.2.1 bt122.2.2.2.1 bt122.2.2.2.2) else (tarrylaw07_GoodsUnits.j0 k a1 bt127.1 bt127.2 (decide (a1 > 1073741824)) bt122.1 bt122.2.1 bt122.2.2.1 bt122.2.2.2.1 bt122.2.2.2.2)) else (tarrylaw07_GoodsUnits.j0 k a1 bt127.1 bt127.2 true bt122.1 bt122.2.1 bt122.2.2.1 bt122.2.2.2.1 bt122.2.2.2.2))))
theorem tarrylaw07_GoodsUnits.mono_l : ∀ k, (∀ y0 y1 y2 y3 y4 y5 y6 y7 y8, LeO (tarrylaw07_GoodsUnits.j0 k y0 y1 y2 y3 y4 y5 y6 y7 y8) (tarrylaw07_GoodsUnits.j0 (k + 1) y0 y1 y2 y3 y4 y5 y6 y7 y8))
  | 0 => fun _ _ _ _ _ _ _ _ _ r h => by simp [tarrylaw07_GoodsUnits.j0] at h
  | k + 1 => by
    have ih0 := tarrylaw07_GoodsUnits.mono_l k
    · intro y0 y1 y2 y3 y4 y5 y6 y7 y8
      unfold tarrylaw07_GoodsUnits.j0
      repeat' first
      | (with_reducible exact ih0 _ _ _ _ _ _ _ _ _)
      | (with_reducible exact goods_Units.mono _ _ _ _ _ _ _)
      | (with_reducible exact tarrylaw07_alive.mono _)
      | (with_reducible exact tarryref07_May.mono _ _ _ _ _ _)
      | (with_reducible exact LeO.refl _)
      | (with_reducible exact LeO.none _)
      | (with_reducible refine LeO.ite ?_ ?_)
      | (with_reducible refine LeO.bind ?_ (fun _ => ?_))
      | exact ih0 _ _ _ _ _ _ _ _ _
      | exact goods_Units.mono _ _ _ _ _ _ _
      | exact tarrylaw07_alive.mono _
      | exact tarryref07_May.mono _ _ _ _ _ _
      | exact LeO.none _
      | refine LeO.ite ?_ ?_
      | refine LeO.bind ?_ (fun _ => ?_)
theorem tarrylaw07_GoodsUnits.mono : ∀ a0 a1 a2 a3 a4 a5 k, LeO (tarrylaw07_GoodsUnits.f k a0 a1 a2 a3 a4 a5) (tarrylaw07_GoodsUnits.f (k + 1) a0 a1 a2 a3 a4 a5) := by
  intro a0 a1 a2 a3 a4 a5 k
  have ih0 := tarrylaw07_GoodsUnits.mono_l k
  unfold tarrylaw07_GoodsUnits.f
  repeat' first
      | (with_reducible exact ih0 _ _ _ _ _ _ _ _ _)
      | (with_reducible exact goods_Units.mono _ _ _ _ _ _ _)
      | (with_reducible exact tarrylaw07_alive.mono _)
      | (with_reducible exact tarryref07_May.mono _ _ _ _ _ _)
      | (with_reducible exact LeO.refl _)
      | (with_reducible exact LeO.none _)
      | (with_reducible refine LeO.ite ?_ ?_)
      | (with_reducible refine LeO.bind ?_ (fun _ => ?_))
      | exact ih0 _ _ _ _ _ _ _ _ _
      | exact goods_Units.mono _ _ _ _ _ _ _
      | exact tarrylaw07_alive.mono _
      | exact tarryref07_May.mono _ _ _ _ _ _
      | exact LeO.none _
      | refine LeO.ite ?_ ?_
      | refine LeO.bind ?_ (fun _ => ?_)
set_option maxHeartbeats 8000000 in
set_option maxRecDepth 100000 in
theorem tarrylaw07_GoodsUnits.calls (k : Nat) (a0_0 : ByteArray) (a0_1 : ByteArray) (a0_2 : Int) (a0_3 : Int) (a0_4 : Int) (a1 : Int) (r : Bool) (w : World) (h : tarrylaw07_GoodsUnits.f k a0_0 a0_1 a0_2 a0_3 a0_4 a1 = some r) :
    Calls Try.prog 3 #[.agg #[.string a0_0, .string a0_1, .int .i64 a0_2, .int .i64 a0_3, .int .i64 a0_4], .int .i64 a1] w fun e w' => e = .returned (.bool r) ∧ Below w.heap.size w w' := by
  have hu23 := Try.underlying23
  have HB := Aside0.mk (Below.refl w.heap.size w)
  have H : ((tarrylaw07_cut.f a0_0 a0_1 a0_2 a0_3 a0_4).bind fun bt122 => ((goods_Units.f k bt122.1 bt122.2.1 bt122.2.2.1 bt122.2.2.2.1 bt122.2.2.2.2 a1).bind fun bt127 => ((tarryref07_May.f k bt122.1 bt122.2.1 bt122.2.2.1 bt122.2.2.2.1 bt122.2.2.2.2).bind fun t129 => (if t129 = true then (if a1 < 1 then (tarrylaw07_GoodsUnits.j0 k a1 bt127.1 bt127.2 true bt122.1 bt122.2.1 bt122.2.2.1 bt122.2.2.2.1 bt122.2.2.2.2) else (tarrylaw07_GoodsUnits.j0 k a1 bt127.1 bt127.2 (decide (a1 > 1073741824)) bt122.1 bt122.2.1 bt122.2.2.1 bt122.2.2.2.1 bt122.2.2.2.2)) else (tarrylaw07_GoodsUnits.j0 k a1 bt127.1 bt127.2 true bt122.1 bt122.2.1 bt122.2.2.1 bt122.2.2.2.1 bt122.2.2.2.2))))) = some r := h
  clear h
  replace H := Option.bind_eq_some_iff.mp H
  obtain ⟨⟨t122, t123, t124, t125, t126⟩, A30, H⟩ := H
  replace H : ((goods_Units.f k t122 t123 t124 t125 t126 a1).bind fun bt127 => ((tarryref07_May.f k t122 t123 t124 t125 t126).bind fun t129 => (if t129 = true then (if a1 < 1 then (tarrylaw07_GoodsUnits.j0 k a1 bt127.1 bt127.2 true t122 t123 t124 t125 t126) else (tarrylaw07_GoodsUnits.j0 k a1 bt127.1 bt127.2 (decide (a1 > 1073741824)) t122 t123 t124 t125 t126)) else (tarrylaw07_GoodsUnits.j0 k a1 bt127.1 bt127.2 true t122 t123 t124 t125 t126)))) = some r := H
  have A3 := Aside0.mk A30
  clear A30
  replace H := Option.bind_eq_some_iff.mp H
  obtain ⟨⟨t127, t128⟩, A40, H⟩ := H
  replace H : ((tarryref07_May.f k t122 t123 t124 t125 t126).bind fun t129 => (if t129 = true then (if a1 < 1 then (tarrylaw07_GoodsUnits.j0 k a1 t127 t128 true t122 t123 t124 t125 t126) else (tarrylaw07_GoodsUnits.j0 k a1 t127 t128 (decide (a1 > 1073741824)) t122 t123 t124 t125 t126)) else (tarrylaw07_GoodsUnits.j0 k a1 t127 t128 true t122 t123 t124 t125 t126))) = some r := H
  have A4 := Aside0.mk A40
  clear A40
  have HC5 := Aside0.mk H
  clear H
  go_enter Try.func3, Try.ntmps3
  go_upto_region 3 with (first | ((with_reducible refine gate_dst (N := 2) rfl ?_); refine box_event ?hg (N := 2) ?hd (cs := #[.string a0_0, .string a0_1, .int .i64 a0_2, .int .i64 a0_3, .int .i64 a0_4]) (t := 23) ?hr ?_; (case hd => rfl); (case hg => rfl); (case hr => first | (go_simp; done) | (go_simp; rfl)); intro gb121 hg w6 hbox hb; have n0_ := Aside0.mk (below_step (by repeat (first | (with_reducible first | exact HB.out | apply below_alloc | apply pw_below_drewN | apply below_drew1) | exact HB.out)) hb); have n1_ := Aside0.mk (hbox); have n2_ := Aside0.mk ((by rw [hg]; exact (below_size (by repeat (first | (with_reducible first | exact HB.out | apply below_alloc | apply pw_below_drewN | apply below_drew1) | exact HB.out))) : w.heap.size ≤ gb121)); have n3_ := Aside0.mk ((by rw [hg]; exact (below_size (by repeat (first | (with_reducible first | exact HB.out | apply below_alloc | apply pw_below_drewN | apply below_drew1) | exact HB.out))) : w.heap.size ≤ gb121)); clear HB; have HB := n0_; have BK121 := n1_; have GW121 := n2_; have GE121 := n3_; clear n0_ n1_ n2_ n3_; clear hb hbox hg; have hcz7_0 : w6.cell? ⟨gb121, 0, none⟩ = some (.string a0_0) := (blk_cell BK121.out 0).trans rfl; have hcz7_1 : w6.cell? ⟨gb121, 1, none⟩ = some (.string a0_1) := (blk_cell BK121.out 1).trans rfl; have hcz7_2 : w6.cell? ⟨gb121, 2, none⟩ = some (.int .i64 a0_2) := (blk_cell BK121.out 2).trans rfl; have hcz7_3 : w6.cell? ⟨gb121, 3, none⟩ = some (.int .i64 a0_3) := (blk_cell BK121.out 3).trans rfl; have hcz7_4 : w6.cell? ⟨gb121, 4, none⟩ = some (.int .i64 a0_4) := (blk_cell BK121.out 4).trans rfl; have hfz7_0 := blk_frozen BK121.out 0; have hfz7_1 := blk_frozen BK121.out 1; have hfz7_2 := blk_frozen BK121.out 2; have hfz7_3 := blk_frozen BK121.out 3; have hfz7_4 := blk_frozen BK121.out 4) | ((with_reducible refine gate_callee (f := 6) rfl ?_); refine goesL_ (some 8) rfl rfl Try.func6 (by kernel_rfl) rfl #[.agg #[.string a0_0, .string a0_1, .int .i64 a0_2, .int .i64 a0_3, .int .i64 a0_4]] rfl (by (try simp only [List.map_toArray, List.map_cons, List.map_nil]); first | done | rfl | (simp only [List.length_drop, List.length_take]; rfl)) ?_; (with_reducible refine (tarrylaw07_cut.calls a0_0 a0_1 a0_2 a0_3 a0_4 t122 t123 t124 t125 t126 _ A3.out).mono ?_); rintro e w8 ⟨rfl, hb⟩; refine ⟨_, rfl, ?_⟩; have n0_ := Aside0.mk (blk_below (g := gb121) (o := .cells #[.string a0_0, .string a0_1, .int .i64 a0_2, .int .i64 a0_3, .int .i64 a0_4] 23 (0, 0)) (by (with_reducible repeat (first | refine blk_drewN ?_ _ | refine blk_drew ?_ | refine blk_alloc ?_ _)); exact BK121.out) hb); have n1_ := Aside0.mk (below_step (by repeat (first | (with_reducible first | exact HB.out | apply below_alloc | apply pw_below_drewN | apply below_drew1 | refine below_set ?_ GE121.out) | exact HB.out)) hb); clear BK121; clear HB; have BK121 := n0_; have HB := n1_; clear n0_ n1_; (try clear hb); (try clear hb2); (try clear hk); (try clear hi); have hcz9_0 : w8.cell? ⟨gb121, 0, none⟩ = some (.string a0_0) := (blk_cell BK121.out 0).trans rfl; have hcz9_1 : w8.cell? ⟨gb121, 1, none⟩ = some (.string a0_1) := (blk_cell BK121.out 1).trans rfl; have hcz9_2 : w8.cell? ⟨gb121, 2, none⟩ = some (.int .i64 a0_2) := (blk_cell BK121.out 2).trans rfl; have hcz9_3 : w8.cell? ⟨gb121, 3, none⟩ = some (.int .i64 a0_3) := (blk_cell BK121.out 3).trans rfl; have hcz9_4 : w8.cell? ⟨gb121, 4, none⟩ = some (.int .i64 a0_4) := (blk_cell BK121.out 4).trans rfl; have hfz9_0 := blk_frozen BK121.out 0; have hfz9_1 := blk_frozen BK121.out 1; have hfz9_2 := blk_frozen BK121.out 2; have hfz9_3 := blk_frozen BK121.out 3; have hfz9_4 := blk_frozen BK121.out 4) | ((with_reducible refine gate_callee (f := 7) rfl ?_); refine goesL_ (some 12) rfl rfl Try.func7 (by kernel_rfl) rfl #[.agg #[.string t122, .string t123, .int .i64 t124, .int .i64 t125, .int .i64 t126], .int .i64 a1] rfl (by (try simp only [List.map_toArray, List.map_cons, List.map_nil]); first | done | rfl | (simp only [List.length_drop, List.length_take]; rfl)) ?_; (with_reducible refine (goods_Units.calls k t122 t123 t124 t125 t126 a1 t127 t128 _ A4.out).mono ?_); rintro e w10 ⟨rfl, hb⟩; refine ⟨_, rfl, ?_⟩; have n0_ := Aside0.mk (blk_below (g := gb121) (o := .cells #[.string t122, .string t123, .int .i64 t124, .int .i64 t125, .int .i64 t126] 23 (0, 0)) (by (with_reducible repeat (first | refine blk_drewN ?_ _ | refine blk_drew ?_ | refine blk_alloc ?_ _)); refine blk_put (cs := #[.string t122, .string t123, .int .i64 t124, .int .i64 t125, .int .i64 a0_4]) ?_ 4 _ rfl; (with_reducible repeat (first | refine blk_drewN ?_ _ | refine blk_drew ?_ | refine blk_alloc ?_ _)); refine blk_put (cs := #[.string t122, .string t123, .int .i64 t124, .int .i64 a0_3, .int .i64 a0_4]) ?_ 3 _ rfl; (with_reducible repeat (first | refine blk_drewN ?_ _ | refine blk_drew ?_ | refine blk_alloc ?_ _)); refine blk_put (cs := #[.string t122, .string t123, .int .i64 a0_2, .int .i64 a0_3, .int .i64 a0_4]) ?_ 2 _ rfl; (with_reducible repeat (first | refine blk_drewN ?_ _ | refine blk_drew ?_ | refine blk_alloc ?_ _)); refine blk_put (cs := #[.string t122, .string a0_1, .int .i64 a0_2, .int .i64 a0_3, .int .i64 a0_4]) ?_ 1 _ rfl; (with_reducible repeat (first | refine blk_drewN ?_ _ | refine blk_drew ?_ | refine blk_alloc ?_ _)); refine blk_put (cs := #[.string a0_0, .string a0_1, .int .i64 a0_2, .int .i64 a0_3, .int .i64 a0_4]) ?_ 0 _ rfl; (with_reducible repeat (first | refine blk_drewN ?_ _ | refine blk_drew ?_ | refine blk_alloc ?_ _)); exact BK121.out) hb); have n1_ := Aside0.mk (below_step (by repeat (first | (with_reducible first | exact HB.out | apply below_alloc | apply pw_below_drewN | apply below_drew1 | refine below_set ?_ GE121.out) | exact HB.out)) hb); clear BK121; clear HB; have BK121 := n0_; have HB := n1_; clear n0_ n1_; (try clear hb); (try clear hb2); (try clear hk); (try clear hi)))
  (try simp only [Act.put, List.setIfInBounds_toArray, List.set_cons_zero, List.set_cons_succ])
  go_cut [25] (fun v25 wc => ∃ (kq : Nat) (x25_4 : Bool), v25 = .bool x25_4 ∧ Aside0 (tarrylaw07_GoodsUnits.j0 kq a1 t127 t128 x25_4 t122 t123 t124 t125 t126 = some r) ∧ Aside0 (kq ≤ k) ∧ Aside0 (wc.heap[gb121]? = some (.cells #[.string t122, .string t123, .int .i64 t124, .int .i64 t125, .int .i64 t126] 23 (0, 0))) ∧ Aside0 (Below w.heap.size w wc))
  case first =>
    have H := HC5.out
    clear HC5
    replace H := Option.bind_eq_some_iff.mp H
    obtain ⟨t129, A110, H⟩ := H
    replace H : (if t129 = true then (if a1 < 1 then (tarrylaw07_GoodsUnits.j0 k a1 t127 t128 true t122 t123 t124 t125 t126) else (tarrylaw07_GoodsUnits.j0 k a1 t127 t128 (decide (a1 > 1073741824)) t122 t123 t124 t125 t126)) else (tarrylaw07_GoodsUnits.j0 k a1 t127 t128 true t122 t123 t124 t125 t126)) = some r := H
    have A11 := Aside0.mk A110
    clear A110
    by_cases c12 : t129 = true
    · subst c12
      have H1 : (if a1 < 1 then (tarrylaw07_GoodsUnits.j0 k a1 t127 t128 true t122 t123 t124 t125 t126) else (tarrylaw07_GoodsUnits.j0 k a1 t127 t128 (decide (a1 > 1073741824)) t122 t123 t124 t125 t126)) = some r := by rw [if_pos rfl] at H; exact H
      clear H
      have H := H1
      clear H1
      by_cases c13 : a1 < 1
      · rw [if_pos c13] at H
        have c13b0 : decide (a1 < 1) = true := decide_eq_true c13
        clear c13
        (first | rw [c13b0] | (simp only [i64_w, i32_w]; rw [c13b0]) | skip)
        have H' := Aside0.mk H
        clear H
        have hcz14_0 : w10.cell? ⟨gb121, 0, none⟩ = some (.string t122) := (blk_cell BK121.out 0).trans rfl
        have hcz14_1 : w10.cell? ⟨gb121, 1, none⟩ = some (.string t123) := (blk_cell BK121.out 1).trans rfl
        have hcz14_2 : w10.cell? ⟨gb121, 2, none⟩ = some (.int .i64 t124) := (blk_cell BK121.out 2).trans rfl
        have hcz14_3 : w10.cell? ⟨gb121, 3, none⟩ = some (.int .i64 t125) := (blk_cell BK121.out 3).trans rfl
        have hcz14_4 : w10.cell? ⟨gb121, 4, none⟩ = some (.int .i64 t126) := (blk_cell BK121.out 4).trans rfl
        have hfz14_0 := blk_frozen BK121.out 0
        have hfz14_1 := blk_frozen BK121.out 1
        have hfz14_2 := blk_frozen BK121.out 2
        have hfz14_3 := blk_frozen BK121.out 3
        have hfz14_4 := blk_frozen BK121.out 4
        go_wp2_with (first | ((with_reducible refine gate_callee (f := 8) rfl ?_); refine goesL_ (some 16) rfl rfl Try.func8 (by kernel_rfl) rfl #[.agg #[.string t122, .string t123, .int .i64 t124, .int .i64 t125, .int .i64 t126]] rfl (by (try simp only [List.map_toArray, List.map_cons, List.map_nil]); first | done | rfl | (simp only [List.length_drop, List.length_take]; rfl)) ?_; (with_reducible refine (tarryref07_May.calls k t122 t123 t124 t125 t126 true _ A11.out).mono ?_); rintro e w15 ⟨rfl, hb⟩; refine ⟨_, rfl, ?_⟩; have n0_ := Aside0.mk (blk_below (g := gb121) (o := .cells #[.string t122, .string t123, .int .i64 t124, .int .i64 t125, .int .i64 t126] 23 (0, 0)) (by (with_reducible repeat (first | refine blk_drewN ?_ _ | refine blk_drew ?_ | refine blk_alloc ?_ _)); exact BK121.out) hb); have n1_ := Aside0.mk (below_step (by repeat (first | (with_reducible first | exact HB.out | apply below_alloc | apply pw_below_drewN | apply below_drew1 | refine below_set ?_ GE121.out) | exact HB.out)) hb); clear BK121; clear HB; have BK121 := n0_; have HB := n1_; clear n0_ n1_; (try clear hb); (try clear hb2); (try clear hk); (try clear hi)))
        go_meet
        case rel => exact ⟨_, (true), (by first | rfl | (simp; done) | (simp [*]; done)), H', ⟨by first | omega | exact Nat.le_refl _⟩, ⟨by (with_reducible repeat (first | refine blk_drewN ?_ _ | refine blk_drew ?_ | refine blk_alloc ?_ _)); exact BK121.out⟩, ⟨by repeat (first | (with_reducible first | exact HB.out | apply below_alloc | apply pw_below_drewN | apply below_drew1 | refine below_set ?_ GE121.out) | exact HB.out)⟩⟩
      · rw [if_neg c13] at H
        have c13b0 : decide (a1 < 1) = false := decide_eq_false c13
        clear c13
        (first | rw [c13b0] | (simp only [i64_w, i32_w]; rw [c13b0]) | skip)
        have H' := Aside0.mk H
        clear H
        have hcz16_0 : w10.cell? ⟨gb121, 0, none⟩ = some (.string t122) := (blk_cell BK121.out 0).trans rfl
        have hcz16_1 : w10.cell? ⟨gb121, 1, none⟩ = some (.string t123) := (blk_cell BK121.out 1).trans rfl
        have hcz16_2 : w10.cell? ⟨gb121, 2, none⟩ = some (.int .i64 t124) := (blk_cell BK121.out 2).trans rfl
        have hcz16_3 : w10.cell? ⟨gb121, 3, none⟩ = some (.int .i64 t125) := (blk_cell BK121.out 3).trans rfl
        have hcz16_4 : w10.cell? ⟨gb121, 4, none⟩ = some (.int .i64 t126) := (blk_cell BK121.out 4).trans rfl
        have hfz16_0 := blk_frozen BK121.out 0
        have hfz16_1 := blk_frozen BK121.out 1
        have hfz16_2 := blk_frozen BK121.out 2
        have hfz16_3 := blk_frozen BK121.out 3
        have hfz16_4 := blk_frozen BK121.out 4
        go_wp2_with (first | ((with_reducible refine gate_callee (f := 8) rfl ?_); refine goesL_ (some 16) rfl rfl Try.func8 (by kernel_rfl) rfl #[.agg #[.string t122, .string t123, .int .i64 t124, .int .i64 t125, .int .i64 t126]] rfl (by (try simp only [List.map_toArray, List.map_cons, List.map_nil]); first | done | rfl | (simp only [List.length_drop, List.length_take]; rfl)) ?_; (with_reducible refine (tarryref07_May.calls k t122 t123 t124 t125 t126 true _ A11.out).mono ?_); rintro e w17 ⟨rfl, hb⟩; refine ⟨_, rfl, ?_⟩; have n0_ := Aside0.mk (blk_below (g := gb121) (o := .cells #[.string t122, .string t123, .int .i64 t124, .int .i64 t125, .int .i64 t126] 23 (0, 0)) (by (with_reducible repeat (first | refine blk_drewN ?_ _ | refine blk_drew ?_ | refine blk_alloc ?_ _)); exact BK121.out) hb); have n1_ := Aside0.mk (below_step (by repeat (first | (with_reducible first | exact HB.out | apply below_alloc | apply pw_below_drewN | apply below_drew1 | refine below_set ?_ GE121.out) | exact HB.out)) hb); clear BK121; clear HB; have BK121 := n0_; have HB := n1_; clear n0_ n1_; (try clear hb); (try clear hb2); (try clear hk); (try clear hi)))
        go_meet
        case rel => exact ⟨_, (decide (a1 > 1073741824)), (by first | rfl | (simp; done) | (simp [*]; done)), H', ⟨by first | omega | exact Nat.le_refl _⟩, ⟨by (with_reducible repeat (first | refine blk_drewN ?_ _ | refine blk_drew ?_ | refine blk_alloc ?_ _)); exact BK121.out⟩, ⟨by repeat (first | (with_reducible first | exact HB.out | apply below_alloc | apply pw_below_drewN | apply below_drew1 | refine below_set ?_ GE121.out) | exact HB.out)⟩⟩
    · replace c12 := Bool.eq_false_iff.mpr c12
      subst c12
      have H1 : (tarrylaw07_GoodsUnits.j0 k a1 t127 t128 true t122 t123 t124 t125 t126) = some r := by rw [if_neg (show ¬ (false = true) by decide)] at H; exact H
      clear H
      have H := H1
      clear H1
      have H' := Aside0.mk H
      clear H
      have hcz18_0 : w10.cell? ⟨gb121, 0, none⟩ = some (.string t122) := (blk_cell BK121.out 0).trans rfl
      have hcz18_1 : w10.cell? ⟨gb121, 1, none⟩ = some (.string t123) := (blk_cell BK121.out 1).trans rfl
      have hcz18_2 : w10.cell? ⟨gb121, 2, none⟩ = some (.int .i64 t124) := (blk_cell BK121.out 2).trans rfl
      have hcz18_3 : w10.cell? ⟨gb121, 3, none⟩ = some (.int .i64 t125) := (blk_cell BK121.out 3).trans rfl
      have hcz18_4 : w10.cell? ⟨gb121, 4, none⟩ = some (.int .i64 t126) := (blk_cell BK121.out 4).trans rfl
      have hfz18_0 := blk_frozen BK121.out 0
      have hfz18_1 := blk_frozen BK121.out 1
      have hfz18_2 := blk_frozen BK121.out 2
      have hfz18_3 := blk_frozen BK121.out 3
      have hfz18_4 := blk_frozen BK121.out 4
      go_wp2_with (first | ((with_reducible refine gate_callee (f := 8) rfl ?_); refine goesL_ (some 16) rfl rfl Try.func8 (by kernel_rfl) rfl #[.agg #[.string t122, .string t123, .int .i64 t124, .int .i64 t125, .int .i64 t126]] rfl (by (try simp only [List.map_toArray, List.map_cons, List.map_nil]); first | done | rfl | (simp only [List.length_drop, List.length_take]; rfl)) ?_; (with_reducible refine (tarryref07_May.calls k t122 t123 t124 t125 t126 false _ A11.out).mono ?_); rintro e w19 ⟨rfl, hb⟩; refine ⟨_, rfl, ?_⟩; have n0_ := Aside0.mk (blk_below (g := gb121) (o := .cells #[.string t122, .string t123, .int .i64 t124, .int .i64 t125, .int .i64 t126] 23 (0, 0)) (by (with_reducible repeat (first | refine blk_drewN ?_ _ | refine blk_drew ?_ | refine blk_alloc ?_ _)); exact BK121.out) hb); have n1_ := Aside0.mk (below_step (by repeat (first | (with_reducible first | exact HB.out | apply below_alloc | apply pw_below_drewN | apply below_drew1 | refine below_set ?_ GE121.out) | exact HB.out)) hb); clear BK121; clear HB; have BK121 := n0_; have HB := n1_; clear n0_ n1_; (try clear hb); (try clear hb2); (try clear hk); (try clear hi)))
      go_meet
      case rel => exact ⟨_, (true), (by first | rfl | (simp; done) | (simp [*]; done)), H', ⟨by first | omega | exact Nat.le_refl _⟩, ⟨by (with_reducible repeat (first | refine blk_drewN ?_ _ | refine blk_drew ?_ | refine blk_alloc ?_ _)); exact BK121.out⟩, ⟨by repeat (first | (with_reducible first | exact HB.out | apply below_alloc | apply pw_below_drewN | apply below_drew1 | refine below_set ?_ GE121.out) | exact HB.out)⟩⟩
  case rest =>
    clear HC5
    try clear c1
    try clear p2
    try clear c3
    try clear c6
    try clear c7
    try clear c8
    try clear c12
    try clear c13
    try clear c13b0
    try clear hcz14_0
    try clear hcz14_1
    try clear hcz14_2
    try clear hcz14_3
    try clear hcz14_4
    try clear hcz16_0
    try clear hcz16_1
    try clear hcz16_2
    try clear hcz16_3
    try clear hcz16_4
    try clear hcz18_0
    try clear hcz18_1
    try clear hcz18_2
    try clear hcz18_3
    try clear hcz18_4
    try clear hcz7_0
    try clear hcz7_1
    try clear hcz7_2
    try clear hcz7_3
    try clear hcz7_4
    try clear hcz9_0
    try clear hcz9_1
    try clear hcz9_2
    try clear hcz9_3
    try clear hcz9_4
    try clear hfz14_0
    try clear hfz14_1
    try clear hfz14_2
    try clear hfz14_3
    try clear hfz14_4
    try clear hfz16_0
    try clear hfz16_1
    try clear hfz16_2
    try clear hfz16_3
    try clear hfz16_4
    try clear hfz18_0
    try clear hfz18_1
    try clear hfz18_2
    try clear hfz18_3
    try clear hfz18_4
    try clear hfz7_0
    try clear hfz7_1
    try clear hfz7_2
    try clear hfz7_3
    try clear hfz7_4
    try clear hfz9_0
    try clear hfz9_1
    try clear hfz9_2
    try clear hfz9_3
    try clear hfz9_4
    obtain ⟨kq, x25_4, rfl, HA, HJ4, BK121, HB⟩ := hcut
    cases kq with
    | zero => exact absurd HA.out (by simp [tarrylaw07_GoodsUnits.j0])
    | succ kj4 =>
      have H := HA.out
      clear HA
      simp only [tarrylaw07_GoodsUnits.j0] at H
      by_cases c20 : x25_4 = true
      · subst c20
        have H1 : ((tarrylaw07_alive.f kj4).bind fun t130 => (if t130 = true then (if t128 = 1 then (some (t127 == 0)) else (some false)) else (some false))) = some r := by rw [if_pos rfl] at H; exact H
        clear H
        have H := H1
        clear H1
        replace H := Option.bind_eq_some_iff.mp H
        obtain ⟨t130, A210, H⟩ := H
        replace H : (if t130 = true then (if t128 = 1 then (some (t127 == 0)) else (some false)) else (some false)) = some r := H
        have A21 := Aside0.mk A210
        clear A210
        by_cases c22 : t130 = true
        · subst c22
          have H1 : (if t128 = 1 then (some (t127 == 0)) else (some false)) = some r := by rw [if_pos rfl] at H; exact H
          clear H
          have H := H1
          clear H1
          by_cases c23 : t128 = 1
          · rw [if_pos c23] at H
            have c23b0 : (t128 == 1) = true := beq_iff_eq.mpr c23
            have c23b1 : (t128 != 1) = false := bne_eq_false_iff_eq.mpr c23
            clear c23
            obtain rfl := Option.some.inj H
            go_wp2_with (first | ((with_reducible refine gate_callee (f := 9) rfl ?_); refine goesL_ (some 26) rfl rfl Try.func9 (by kernel_rfl) rfl #[] rfl (by (try simp only [List.map_toArray, List.map_cons, List.map_nil]); first | done | rfl | (simp only [List.length_drop, List.length_take]; rfl)) ?_; (with_reducible refine (tarrylaw07_alive.calls kj4  true _ A21.out).mono ?_); rintro e w24 ⟨rfl, hb⟩; refine ⟨_, rfl, ?_⟩; have n0_ := Aside0.mk (blk_below (g := gb121) (o := .cells #[.string t122, .string t123, .int .i64 t124, .int .i64 t125, .int .i64 t126] 23 (0, 0)) (by (with_reducible repeat (first | refine blk_drewN ?_ _ | refine blk_drew ?_ | refine blk_alloc ?_ _)); exact BK121.out) hb); have n1_ := Aside0.mk (below_step (by repeat (first | (with_reducible first | exact HB.out | apply below_alloc | apply pw_below_drewN | apply below_drew1 | refine below_set ?_ GE121.out) | exact HB.out)) hb); clear BK121; clear HB; have BK121 := n0_; have HB := n1_; clear n0_ n1_; (try clear hb); (try clear hb2); (try clear hk); (try clear hi)))
            go_ret
            exact ⟨by first | rfl | (simp [errW_none, errW_some] <;> rfl) | (simp [*, errW_none, errW_some] <;> rfl), by repeat (first | (with_reducible first | exact HB.out | apply below_alloc | apply pw_below_drewN | apply below_drew1 | refine below_set ?_ GE121.out) | exact HB.out)⟩
          · rw [if_neg c23] at H
            have c23b0 : (t128 == 1) = false := beq_eq_false_iff_ne.mpr c23
            have c23b1 : (t128 != 1) = true := bne_iff_ne.mpr c23
            obtain rfl := Option.some.inj H
            go_wp2_with (first | ((with_reducible refine gate_callee (f := 9) rfl ?_); refine goesL_ (some 26) rfl rfl Try.func9 (by kernel_rfl) rfl #[] rfl (by (try simp only [List.map_toArray, List.map_cons, List.map_nil]); first | done | rfl | (simp only [List.length_drop, List.length_take]; rfl)) ?_; (with_reducible refine (tarrylaw07_alive.calls kj4  true _ A21.out).mono ?_); rintro e w25 ⟨rfl, hb⟩; refine ⟨_, rfl, ?_⟩; have n0_ := Aside0.mk (blk_below (g := gb121) (o := .cells #[.string t122, .string t123, .int .i64 t124, .int .i64 t125, .int .i64 t126] 23 (0, 0)) (by (with_reducible repeat (first | refine blk_drewN ?_ _ | refine blk_drew ?_ | refine blk_alloc ?_ _)); exact BK121.out) hb); have n1_ := Aside0.mk (below_step (by repeat (first | (with_reducible first | exact HB.out | apply below_alloc | apply pw_below_drewN | apply below_drew1 | refine below_set ?_ GE121.out) | exact HB.out)) hb); clear BK121; clear HB; have BK121 := n0_; have HB := n1_; clear n0_ n1_; (try clear hb); (try clear hb2); (try clear hk); (try clear hi)))
            go_ret
            exact ⟨by first | rfl | (simp [errW_none, errW_some] <;> rfl) | (simp [*, errW_none, errW_some] <;> rfl), by repeat (first | (with_reducible first | exact HB.out | apply below_alloc | apply pw_below_drewN | apply below_drew1 | refine below_set ?_ GE121.out) | exact HB.out)⟩
        · replace c22 := Bool.eq_false_iff.mpr c22
          subst c22
          have H1 : (some false) = some r := by rw [if_neg (show ¬ (false = true) by decide)] at H; exact H
          clear H
          have H := H1
          clear H1
          obtain rfl := Option.some.inj H
          go_wp2_with (first | ((with_reducible refine gate_callee (f := 9) rfl ?_); refine goesL_ (some 26) rfl rfl Try.func9 (by kernel_rfl) rfl #[] rfl (by (try simp only [List.map_toArray, List.map_cons, List.map_nil]); first | done | rfl | (simp only [List.length_drop, List.length_take]; rfl)) ?_; (with_reducible refine (tarrylaw07_alive.calls kj4  false _ A21.out).mono ?_); rintro e w26 ⟨rfl, hb⟩; refine ⟨_, rfl, ?_⟩; have n0_ := Aside0.mk (blk_below (g := gb121) (o := .cells #[.string t122, .string t123, .int .i64 t124, .int .i64 t125, .int .i64 t126] 23 (0, 0)) (by (with_reducible repeat (first | refine blk_drewN ?_ _ | refine blk_drew ?_ | refine blk_alloc ?_ _)); exact BK121.out) hb); have n1_ := Aside0.mk (below_step (by repeat (first | (with_reducible first | exact HB.out | apply below_alloc | apply pw_below_drewN | apply below_drew1 | refine below_set ?_ GE121.out) | exact HB.out)) hb); clear BK121; clear HB; have BK121 := n0_; have HB := n1_; clear n0_ n1_; (try clear hb); (try clear hb2); (try clear hk); (try clear hi)))
          go_ret
          exact ⟨by first | rfl | (simp [errW_none, errW_some] <;> rfl) | (simp [*, errW_none, errW_some] <;> rfl), by repeat (first | (with_reducible first | exact HB.out | apply below_alloc | apply pw_below_drewN | apply below_drew1 | refine below_set ?_ GE121.out) | exact HB.out)⟩
      · replace c20 := Bool.eq_false_iff.mpr c20
        subst c20
        have H1 : ((tarryref07_Units.f t122 t123 t124 t125 t126 a1).bind fun t131 => (if t131 > 1073741824 then ((tarrylaw07_alive.f kj4).bind fun t132 => (if t132 = true then (if t128 = 2 then (some (t127 == 0)) else (some false)) else (some false))) else ((tarrylaw07_alive.f kj4).bind fun t133 => (if t133 = true then (if t128 = 0 then ((tarryref07_Units.f t122 t123 t124 t125 t126 a1).bind fun t134 => (if t127 = t134 then (if (wrap64 (t127 * t126)) ≥ (wrap64 (a1 * t125)) then (if (wrap64 ((wrap64 (t127 - 1)) * t126)) < (wrap64 (a1 * t125)) then (some (decide (t127 ≥ 1))) else (some false)) else (some false)) else (some false))) else (some false)) else (some false))))) = some r := by rw [if_neg (show ¬ (false = true) by decide)] at H; exact H
        clear H
        have H := H1
        clear H1
        replace H := Option.bind_eq_some_iff.mp H
        obtain ⟨t131, A270, H⟩ := H
        replace H : (if t131 > 1073741824 then ((tarrylaw07_alive.f kj4).bind fun t132 => (if t132 = true then (if t128 = 2 then (some (t127 == 0)) else (some false)) else (some false))) else ((tarrylaw07_alive.f kj4).bind fun t133 => (if t133 = true then (if t128 = 0 then ((tarryref07_Units.f t122 t123 t124 t125 t126 a1).bind fun t134 => (if t127 = t134 then (if (wrap64 (t127 * t126)) ≥ (wrap64 (a1 * t125)) then (if (wrap64 ((wrap64 (t127 - 1)) * t126)) < (wrap64 (a1 * t125)) then (some (decide (t127 ≥ 1))) else (some false)) else (some false)) else (some false))) else (some false)) else (some false)))) = some r := H
        have A27 := Aside0.mk A270
        clear A270
        by_cases c28 : t131 > 1073741824
        · rw [if_pos c28] at H
          have c28b0 : decide (1073741824 < t131) = true := decide_eq_true c28
          clear c28
          replace H := Option.bind_eq_some_iff.mp H
          obtain ⟨t132, A290, H⟩ := H
          replace H : (if t132 = true then (if t128 = 2 then (some (t127 == 0)) else (some false)) else (some false)) = some r := H
          have A29 := Aside0.mk A290
          clear A290
          by_cases c30 : t132 = true
          · subst c30
            have H1 : (if t128 = 2 then (some (t127 == 0)) else (some false)) = some r := by rw [if_pos rfl] at H; exact H
            clear H
            have H := H1
            clear H1
            by_cases c31 : t128 = 2
            · rw [if_pos c31] at H
              have c31b0 : (t128 == 2) = true := beq_iff_eq.mpr c31
              have c31b1 : (t128 != 2) = false := bne_eq_false_iff_eq.mpr c31
              clear c31
              obtain rfl := Option.some.inj H
              have hcz32_0 : wc.cell? ⟨gb121, 0, none⟩ = some (.string t122) := (blk_cell BK121.out 0).trans rfl
              have hcz32_1 : wc.cell? ⟨gb121, 1, none⟩ = some (.string t123) := (blk_cell BK121.out 1).trans rfl
              have hcz32_2 : wc.cell? ⟨gb121, 2, none⟩ = some (.int .i64 t124) := (blk_cell BK121.out 2).trans rfl
              have hcz32_3 : wc.cell? ⟨gb121, 3, none⟩ = some (.int .i64 t125) := (blk_cell BK121.out 3).trans rfl
              have hcz32_4 : wc.cell? ⟨gb121, 4, none⟩ = some (.int .i64 t126) := (blk_cell BK121.out 4).trans rfl
              have hfz32_0 := blk_frozen BK121.out 0
              have hfz32_1 := blk_frozen BK121.out 1
              have hfz32_2 := blk_frozen BK121.out 2
              have hfz32_3 := blk_frozen BK121.out 3
              have hfz32_4 := blk_frozen BK121.out 4
              go_wp2_with (first | ((with_reducible refine gate_callee (f := 10) rfl ?_); refine goesL_ (some 37) rfl rfl Try.func10 (by kernel_rfl) rfl #[.agg #[.string t122, .string t123, .int .i64 t124, .int .i64 t125, .int .i64 t126], .int .i64 a1] rfl (by (try simp only [List.map_toArray, List.map_cons, List.map_nil]); first | done | rfl | (simp only [List.length_drop, List.length_take]; rfl)) ?_; (with_reducible refine (tarryref07_Units.calls t122 t123 t124 t125 t126 a1 t131 _ A27.out).mono ?_); rintro e w33 ⟨rfl, hb⟩; refine ⟨_, rfl, ?_⟩; have n0_ := Aside0.mk (blk_below (g := gb121) (o := .cells #[.string t122, .string t123, .int .i64 t124, .int .i64 t125, .int .i64 t126] 23 (0, 0)) (by (with_reducible repeat (first | refine blk_drewN ?_ _ | refine blk_drew ?_ | refine blk_alloc ?_ _)); exact BK121.out) hb); have n1_ := Aside0.mk (below_step (by repeat (first | (with_reducible first | exact HB.out | apply below_alloc | apply pw_below_drewN | apply below_drew1 | refine below_set ?_ GE121.out) | exact HB.out)) hb); clear BK121; clear HB; have BK121 := n0_; have HB := n1_; clear n0_ n1_; (try clear hb); (try clear hb2); (try clear hk); (try clear hi)) | ((with_reducible refine gate_callee (f := 9) rfl ?_); refine goesL_ (some 39) rfl rfl Try.func9 (by kernel_rfl) rfl #[] rfl (by (try simp only [List.map_toArray, List.map_cons, List.map_nil]); first | done | rfl | (simp only [List.length_drop, List.length_take]; rfl)) ?_; (with_reducible refine (tarrylaw07_alive.calls kj4  true _ A29.out).mono ?_); rintro e w34 ⟨rfl, hb⟩; refine ⟨_, rfl, ?_⟩; have n0_ := Aside0.mk (blk_below (g := gb121) (o := .cells #[.string t122, .string t123, .int .i64 t124, .int .i64 t125, .int .i64 t126] 23 (0, 0)) (by (with_reducible repeat (first | refine blk_drewN ?_ _ | refine blk_drew ?_ | refine blk_alloc ?_ _)); exact BK121.out) hb); have n1_ := Aside0.mk (below_step (by repeat (first | (with_reducible first | exact HB.out | apply below_alloc | apply pw_below_drewN | apply below_drew1 | refine below_set ?_ GE121.out) | exact HB.out)) hb); clear BK121; clear HB; have BK121 := n0_; have HB := n1_; clear n0_ n1_; (try clear hb); (try clear hb2); (try clear hk); (try clear hi)))
              go_ret
              exact ⟨by first | rfl | (simp [errW_none, errW_some] <;> rfl) | (simp [*, errW_none, errW_some] <;> rfl), by repeat (first | (with_reducible first | exact HB.out | apply below_alloc | apply pw_below_drewN | apply below_drew1 | refine below_set ?_ GE121.out) | exact HB.out)⟩
            · rw [if_neg c31] at H
              have c31b0 : (t128 == 2) = false := beq_eq_false_iff_ne.mpr c31
              have c31b1 : (t128 != 2) = true := bne_iff_ne.mpr c31
              obtain rfl := Option.some.inj H
              have hcz35_0 : wc.cell? ⟨gb121, 0, none⟩ = some (.string t122) := (blk_cell BK121.out 0).trans rfl
              have hcz35_1 : wc.cell? ⟨gb121, 1, none⟩ = some (.string t123) := (blk_cell BK121.out 1).trans rfl
              have hcz35_2 : wc.cell? ⟨gb121, 2, none⟩ = some (.int .i64 t124) := (blk_cell BK121.out 2).trans rfl
              have hcz35_3 : wc.cell? ⟨gb121, 3, none⟩ = some (.int .i64 t125) := (blk_cell BK121.out 3).trans rfl
              have hcz35_4 : wc.cell? ⟨gb121, 4, none⟩ = some (.int .i64 t126) := (blk_cell BK121.out 4).trans rfl
              have hfz35_0 := blk_frozen BK121.out 0
              have hfz35_1 := blk_frozen BK121.out 1
              have hfz35_2 := blk_frozen BK121.out 2
              have hfz35_3 := blk_frozen BK121.out 3
              have hfz35_4 := blk_frozen BK121.out 4
              go_wp2_with (first | ((with_reducible refine gate_callee (f := 10) rfl ?_); refine goesL_ (some 37) rfl rfl Try.func10 (by kernel_rfl) rfl #[.agg #[.string t122, .string t123, .int .i64 t124, .int .i64 t125, .int .i64 t126], .int .i64 a1] rfl (by (try simp only [List.map_toArray, List.map_cons, List.map_nil]); first | done | rfl | (simp only [List.length_drop, List.length_take]; rfl)) ?_; (with_reducible refine (tarryref07_Units.calls t122 t123 t124 t125 t126 a1 t131 _ A27.out).mono ?_); rintro e w36 ⟨rfl, hb⟩; refine ⟨_, rfl, ?_⟩; have n0_ := Aside0.mk (blk_below (g := gb121) (o := .cells #[.string t122, .string t123, .int .i64 t124, .int .i64 t125, .int .i64 t126] 23 (0, 0)) (by (with_reducible repeat (first | refine blk_drewN ?_ _ | refine blk_drew ?_ | refine blk_alloc ?_ _)); exact BK121.out) hb); have n1_ := Aside0.mk (below_step (by repeat (first | (with_reducible first | exact HB.out | apply below_alloc | apply pw_below_drewN | apply below_drew1 | refine below_set ?_ GE121.out) | exact HB.out)) hb); clear BK121; clear HB; have BK121 := n0_; have HB := n1_; clear n0_ n1_; (try clear hb); (try clear hb2); (try clear hk); (try clear hi)) | ((with_reducible refine gate_callee (f := 9) rfl ?_); refine goesL_ (some 39) rfl rfl Try.func9 (by kernel_rfl) rfl #[] rfl (by (try simp only [List.map_toArray, List.map_cons, List.map_nil]); first | done | rfl | (simp only [List.length_drop, List.length_take]; rfl)) ?_; (with_reducible refine (tarrylaw07_alive.calls kj4  true _ A29.out).mono ?_); rintro e w37 ⟨rfl, hb⟩; refine ⟨_, rfl, ?_⟩; have n0_ := Aside0.mk (blk_below (g := gb121) (o := .cells #[.string t122, .string t123, .int .i64 t124, .int .i64 t125, .int .i64 t126] 23 (0, 0)) (by (with_reducible repeat (first | refine blk_drewN ?_ _ | refine blk_drew ?_ | refine blk_alloc ?_ _)); exact BK121.out) hb); have n1_ := Aside0.mk (below_step (by repeat (first | (with_reducible first | exact HB.out | apply below_alloc | apply pw_below_drewN | apply below_drew1 | refine below_set ?_ GE121.out) | exact HB.out)) hb); clear BK121; clear HB; have BK121 := n0_; have HB := n1_; clear n0_ n1_; (try clear hb); (try clear hb2); (try clear hk); (try clear hi)))
              go_ret
              exact ⟨by first | rfl | (simp [errW_none, errW_some] <;> rfl) | (simp [*, errW_none, errW_some] <;> rfl), by repeat (first | (with_reducible first | exact HB.out | apply below_alloc | apply pw_below_drewN | apply below_drew1 | refine below_set ?_ GE121.out) | exact HB.out)⟩
          · replace c30 := Bool.eq_false_iff.mpr c30
            subst c30
            have H1 : (some false) = some r := by rw [if_neg (show ¬ (false = true) by decide)] at H; exact H
            clear H
            have H := H1
            clear H1
            obtain rfl := Option.some.inj H
            have hcz38_0 : wc.cell? ⟨gb121, 0, none⟩ = some (.string t122) := (blk_cell BK121.out 0).trans rfl
            have hcz38_1 : wc.cell? ⟨gb121, 1, none⟩ = some (.string t123) := (blk_cell BK121.out 1).trans rfl
            have hcz38_2 : wc.cell? ⟨gb121, 2, none⟩ = some (.int .i64 t124) := (blk_cell BK121.out 2).trans rfl
            have hcz38_3 : wc.cell? ⟨gb121, 3, none⟩ = some (.int .i64 t125) := (blk_cell BK121.out 3).trans rfl
            have hcz38_4 : wc.cell? ⟨gb121, 4, none⟩ = some (.int .i64 t126) := (blk_cell BK121.out 4).trans rfl
            have hfz38_0 := blk_frozen BK121.out 0
            have hfz38_1 := blk_frozen BK121.out 1
            have hfz38_2 := blk_frozen BK121.out 2
            have hfz38_3 := blk_frozen BK121.out 3
            have hfz38_4 := blk_frozen BK121.out 4
            go_wp2_with (first | ((with_reducible refine gate_callee (f := 10) rfl ?_); refine goesL_ (some 37) rfl rfl Try.func10 (by kernel_rfl) rfl #[.agg #[.string t122, .string t123, .int .i64 t124, .int .i64 t125, .int .i64 t126], .int .i64 a1] rfl (by (try simp only [List.map_toArray, List.map_cons, List.map_nil]); first | done | rfl | (simp only [List.length_drop, List.length_take]; rfl)) ?_; (with_reducible refine (tarryref07_Units.calls t122 t123 t124 t125 t126 a1 t131 _ A27.out).mono ?_); rintro e w39 ⟨rfl, hb⟩; refine ⟨_, rfl, ?_⟩; have n0_ := Aside0.mk (blk_below (g := gb121) (o := .cells #[.string t122, .string t123, .int .i64 t124, .int .i64 t125, .int .i64 t126] 23 (0, 0)) (by (with_reducible repeat (first | refine blk_drewN ?_ _ | refine blk_drew ?_ | refine blk_alloc ?_ _)); exact BK121.out) hb); have n1_ := Aside0.mk (below_step (by repeat (first | (with_reducible first | exact HB.out | apply below_alloc | apply pw_below_drewN | apply below_drew1 | refine below_set ?_ GE121.out) | exact HB.out)) hb); clear BK121; clear HB; have BK121 := n0_; have HB := n1_; clear n0_ n1_; (try clear hb); (try clear hb2); (try clear hk); (try clear hi)) | ((with_reducible refine gate_callee (f := 9) rfl ?_); refine goesL_ (some 39) rfl rfl Try.func9 (by kernel_rfl) rfl #[] rfl (by (try simp only [List.map_toArray, List.map_cons, List.map_nil]); first | done | rfl | (simp only [List.length_drop, List.length_take]; rfl)) ?_; (with_reducible refine (tarrylaw07_alive.calls kj4  false _ A29.out).mono ?_); rintro e w40 ⟨rfl, hb⟩; refine ⟨_, rfl, ?_⟩; have n0_ := Aside0.mk (blk_below (g := gb121) (o := .cells #[.string t122, .string t123, .int .i64 t124, .int .i64 t125, .int .i64 t126] 23 (0, 0)) (by (with_reducible repeat (first | refine blk_drewN ?_ _ | refine blk_drew ?_ | refine blk_alloc ?_ _)); exact BK121.out) hb); have n1_ := Aside0.mk (below_step (by repeat (first | (with_reducible first | exact HB.out | apply below_alloc | apply pw_below_drewN | apply below_drew1 | refine below_set ?_ GE121.out) | exact HB.out)) hb); clear BK121; clear HB; have BK121 := n0_; have HB := n1_; clear n0_ n1_; (try clear hb); (try clear hb2); (try clear hk); (try clear hi)))
            go_ret
            exact ⟨by first | rfl | (simp [errW_none, errW_some] <;> rfl) | (simp [*, errW_none, errW_some] <;> rfl), by repeat (first | (with_reducible first | exact HB.out | apply below_alloc | apply pw_below_drewN | apply below_drew1 | refine below_set ?_ GE121.out) | exact HB.out)⟩
        · rw [if_neg c28] at H
          have c28b0 : decide (1073741824 < t131) = false := decide_eq_false c28
          clear c28
          replace H := Option.bind_eq_some_iff.mp H
          obtain ⟨t133, A410, H⟩ := H
          replace H : (if t133 = true then (if t128 = 0 then ((tarryref07_Units.f t122 t123 t124 t125 t126 a1).bind fun t134 => (if t127 = t134 then (if (wrap64 (t127 * t126)) ≥ (wrap64 (a1 * t125)) then (if (wrap64 ((wrap64 (t127 - 1)) * t126)) < (wrap64 (a1 * t125)) then (some (decide (t127 ≥ 1))) else (some false)) else (some false)) else (some false))) else (some false)) else (some false)) = some r := H
          have A41 := Aside0.mk A410
          clear A410
          by_cases c42 : t133 = true
          · subst c42
            have H1 : (if t128 = 0 then ((tarryref07_Units.f t122 t123 t124 t125 t126 a1).bind fun t134 => (if t127 = t134 then (if (wrap64 (t127 * t126)) ≥ (wrap64 (a1 * t125)) then (if (wrap64 ((wrap64 (t127 - 1)) * t126)) < (wrap64 (a1 * t125)) then (some (decide (t127 ≥ 1))) else (some false)) else (some false)) else (some false))) else (some false)) = some r := by rw [if_pos rfl] at H; exact H
            clear H
            have H := H1
            clear H1
            by_cases c43 : t128 = 0
            · rw [if_pos c43] at H
              have c43b0 : (t128 == 0) = true := beq_iff_eq.mpr c43
              have c43b1 : (t128 != 0) = false := bne_eq_false_iff_eq.mpr c43
              clear c43
              replace H := Option.bind_eq_some_iff.mp H
              obtain ⟨t134, A440, H⟩ := H
              replace H : (if t127 = t134 then (if (wrap64 (t127 * t126)) ≥ (wrap64 (a1 * t125)) then (if (wrap64 ((wrap64 (t127 - 1)) * t126)) < (wrap64 (a1 * t125)) then (some (decide (t127 ≥ 1))) else (some false)) else (some false)) else (some false)) = some r := H
              have A44 := Aside0.mk A440
              clear A440
              by_cases c45 : t127 = t134
              · rw [if_pos c45] at H
                have c45b0 : (t127 == t134) = true := beq_iff_eq.mpr c45
                have c45b1 : (t127 != t134) = false := bne_eq_false_iff_eq.mpr c45
                clear c45
                by_cases c46 : (wrap64 (t127 * t126)) ≥ (wrap64 (a1 * t125))
                · rw [if_pos c46] at H
                  have c46b0 : decide ((wrap64 (a1 * t125)) ≤ (wrap64 (t127 * t126))) = true := decide_eq_true c46
                  clear c46
                  by_cases c47 : (wrap64 ((wrap64 (t127 - 1)) * t126)) < (wrap64 (a1 * t125))
                  · rw [if_pos c47] at H
                    have c47b0 : decide ((wrap64 ((wrap64 (t127 - 1)) * t126)) < (wrap64 (a1 * t125))) = true := decide_eq_true c47
                    clear c47
                    obtain rfl := Option.some.inj H
                    have hcz48_0 : wc.cell? ⟨gb121, 0, none⟩ = some (.string t122) := (blk_cell BK121.out 0).trans rfl
                    have hcz48_1 : wc.cell? ⟨gb121, 1, none⟩ = some (.string t123) := (blk_cell BK121.out 1).trans rfl
                    have hcz48_2 : wc.cell? ⟨gb121, 2, none⟩ = some (.int .i64 t124) := (blk_cell BK121.out 2).trans rfl
                    have hcz48_3 : wc.cell? ⟨gb121, 3, none⟩ = some (.int .i64 t125) := (blk_cell BK121.out 3).trans rfl
                    have hcz48_4 : wc.cell? ⟨gb121, 4, none⟩ = some (.int .i64 t126) := (blk_cell BK121.out 4).trans rfl
                    have hfz48_0 := blk_frozen BK121.out 0
                    have hfz48_1 := blk_frozen BK121.out 1
                    have hfz48_2 := blk_frozen BK121.out 2
                    have hfz48_3 := blk_frozen BK121.out 3
                    have hfz48_4 := blk_frozen BK121.out 4
                    go_wp2_with (first | ((with_reducible refine gate_callee (f := 10) rfl ?_); refine goesL_ (some 37) rfl rfl Try.func10 (by kernel_rfl) rfl #[.agg #[.string t122, .string t123, .int .i64 t124, .int .i64 t125, .int .i64 t126], .int .i64 a1] rfl (by (try simp only [List.map_toArray, List.map_cons, List.map_nil]); first | done | rfl | (simp only [List.length_drop, List.length_take]; rfl)) ?_; (with_reducible refine (tarryref07_Units.calls t122 t123 t124 t125 t126 a1 t131 _ A27.out).mono ?_); rintro e w49 ⟨rfl, hb⟩; refine ⟨_, rfl, ?_⟩; have n0_ := Aside0.mk (blk_below (g := gb121) (o := .cells #[.string t122, .string t123, .int .i64 t124, .int .i64 t125, .int .i64 t126] 23 (0, 0)) (by (with_reducible repeat (first | refine blk_drewN ?_ _ | refine blk_drew ?_ | refine blk_alloc ?_ _)); exact BK121.out) hb); have n1_ := Aside0.mk (below_step (by repeat (first | (with_reducible first | exact HB.out | apply below_alloc | apply pw_below_drewN | apply below_drew1 | refine below_set ?_ GE121.out) | exact HB.out)) hb); clear BK121; clear HB; have BK121 := n0_; have HB := n1_; clear n0_ n1_; (try clear hb); (try clear hb2); (try clear hk); (try clear hi)) | ((with_reducible refine gate_callee (f := 9) rfl ?_); refine goesL_ (some 48) rfl rfl Try.func9 (by kernel_rfl) rfl #[] rfl (by (try simp only [List.map_toArray, List.map_cons, List.map_nil]); first | done | rfl | (simp only [List.length_drop, List.length_take]; rfl)) ?_; (with_reducible refine (tarrylaw07_alive.calls kj4  true _ A41.out).mono ?_); rintro e w50 ⟨rfl, hb⟩; refine ⟨_, rfl, ?_⟩; have n0_ := Aside0.mk (blk_below (g := gb121) (o := .cells #[.string t122, .string t123, .int .i64 t124, .int .i64 t125, .int .i64 t126] 23 (0, 0)) (by (with_reducible repeat (first | refine blk_drewN ?_ _ | refine blk_drew ?_ | refine blk_alloc ?_ _)); exact BK121.out) hb); have n1_ := Aside0.mk (below_step (by repeat (first | (with_reducible first | exact HB.out | apply below_alloc | apply pw_below_drewN | apply below_drew1 | refine below_set ?_ GE121.out) | exact HB.out)) hb); clear BK121; clear HB; have BK121 := n0_; have HB := n1_; clear n0_ n1_; (try clear hb); (try clear hb2); (try clear hk); (try clear hi); have hcz51_0 : w50.cell? ⟨gb121, 0, none⟩ = some (.string t122) := (blk_cell BK121.out 0).trans rfl; have hcz51_1 : w50.cell? ⟨gb121, 1, none⟩ = some (.string t123) := (blk_cell BK121.out 1).trans rfl; have hcz51_2 : w50.cell? ⟨gb121, 2, none⟩ = some (.int .i64 t124) := (blk_cell BK121.out 2).trans rfl; have hcz51_3 : w50.cell? ⟨gb121, 3, none⟩ = some (.int .i64 t125) := (blk_cell BK121.out 3).trans rfl; have hcz51_4 : w50.cell? ⟨gb121, 4, none⟩ = some (.int .i64 t126) := (blk_cell BK121.out 4).trans rfl; have hfz51_0 := blk_frozen BK121.out 0; have hfz51_1 := blk_frozen BK121.out 1; have hfz51_2 := blk_frozen BK121.out 2; have hfz51_3 := blk_frozen BK121.out 3; have hfz51_4 := blk_frozen BK121.out 4) | (go_at_call 10; (with_reducible refine (tarryref07_Units.calls t122 t123 t124 t125 t126 a1 t134 _ A44.out).mono ?_); rintro e w52 ⟨rfl, hb⟩; have n0_ := Aside0.mk (blk_below (g := gb121) (o := .cells #[.string t122, .string t123, .int .i64 t124, .int .i64 t125, .int .i64 t126] 23 (0, 0)) (by (with_reducible repeat (first | refine blk_drewN ?_ _ | refine blk_drew ?_ | refine blk_alloc ?_ _)); exact BK121.out) hb); have n1_ := Aside0.mk (below_step (by repeat (first | (with_reducible first | exact HB.out | apply below_alloc | apply pw_below_drewN | apply below_drew1 | refine below_set ?_ GE121.out) | exact HB.out)) hb); clear BK121; clear HB; have BK121 := n0_; have HB := n1_; clear n0_ n1_; (try clear hb); (try clear hb2); (try clear hk); (try clear hi); have hcz53_0 : w52.cell? ⟨gb121, 0, none⟩ = some (.string t122) := (blk_cell BK121.out 0).trans rfl; have hcz53_1 : w52.cell? ⟨gb121, 1, none⟩ = some (.string t123) := (blk_cell BK121.out 1).trans rfl; have hcz53_2 : w52.cell? ⟨gb121, 2, none⟩ = some (.int .i64 t124) := (blk_cell BK121.out 2).trans rfl; have hcz53_3 : w52.cell? ⟨gb121, 3, none⟩ = some (.int .i64 t125) := (blk_cell BK121.out 3).trans rfl; have hcz53_4 : w52.cell? ⟨gb121, 4, none⟩ = some (.int .i64 t126) := (blk_cell BK121.out 4).trans rfl; have hfz53_0 := blk_frozen BK121.out 0; have hfz53_1 := blk_frozen BK121.out 1; have hfz53_2 := blk_frozen BK121.out 2; have hfz53_3 := blk_frozen BK121.out 3; have hfz53_4 := blk_frozen BK121.out 4))
                    go_ret
                    exact ⟨by first | rfl | (simp [errW_none, errW_some] <;> rfl) | (simp [*, errW_none, errW_some] <;> rfl), by repeat (first | (with_reducible first | exact HB.out | apply below_alloc | apply pw_below_drewN | apply below_drew1 | refine below_set ?_ GE121.out) | exact HB.out)⟩
                  · rw [if_neg c47] at H
                    have c47b0 : decide ((wrap64 ((wrap64 (t127 - 1)) * t126)) < (wrap64 (a1 * t125))) = false := decide_eq_false c47
                    clear c47
                    obtain rfl := Option.some.inj H
                    have hcz54_0 : wc.cell? ⟨gb121, 0, none⟩ = some (.string t122) := (blk_cell BK121.out 0).trans rfl
                    have hcz54_1 : wc.cell? ⟨gb121, 1, none⟩ = some (.string t123) := (blk_cell BK121.out 1).trans rfl
                    have hcz54_2 : wc.cell? ⟨gb121, 2, none⟩ = some (.int .i64 t124) := (blk_cell BK121.out 2).trans rfl
                    have hcz54_3 : wc.cell? ⟨gb121, 3, none⟩ = some (.int .i64 t125) := (blk_cell BK121.out 3).trans rfl
                    have hcz54_4 : wc.cell? ⟨gb121, 4, none⟩ = some (.int .i64 t126) := (blk_cell BK121.out 4).trans rfl
                    have hfz54_0 := blk_frozen BK121.out 0
                    have hfz54_1 := blk_frozen BK121.out 1
                    have hfz54_2 := blk_frozen BK121.out 2
                    have hfz54_3 := blk_frozen BK121.out 3
                    have hfz54_4 := blk_frozen BK121.out 4
                    go_wp2_with (first | ((with_reducible refine gate_callee (f := 10) rfl ?_); refine goesL_ (some 37) rfl rfl Try.func10 (by kernel_rfl) rfl #[.agg #[.string t122, .string t123, .int .i64 t124, .int .i64 t125, .int .i64 t126], .int .i64 a1] rfl (by (try simp only [List.map_toArray, List.map_cons, List.map_nil]); first | done | rfl | (simp only [List.length_drop, List.length_take]; rfl)) ?_; (with_reducible refine (tarryref07_Units.calls t122 t123 t124 t125 t126 a1 t131 _ A27.out).mono ?_); rintro e w55 ⟨rfl, hb⟩; refine ⟨_, rfl, ?_⟩; have n0_ := Aside0.mk (blk_below (g := gb121) (o := .cells #[.string t122, .string t123, .int .i64 t124, .int .i64 t125, .int .i64 t126] 23 (0, 0)) (by (with_reducible repeat (first | refine blk_drewN ?_ _ | refine blk_drew ?_ | refine blk_alloc ?_ _)); exact BK121.out) hb); have n1_ := Aside0.mk (below_step (by repeat (first | (with_reducible first | exact HB.out | apply below_alloc | apply pw_below_drewN | apply below_drew1 | refine below_set ?_ GE121.out) | exact HB.out)) hb); clear BK121; clear HB; have BK121 := n0_; have HB := n1_; clear n0_ n1_; (try clear hb); (try clear hb2); (try clear hk); (try clear hi)) | ((with_reducible refine gate_callee (f := 9) rfl ?_); refine goesL_ (some 48) rfl rfl Try.func9 (by kernel_rfl) rfl #[] rfl (by (try simp only [List.map_toArray, List.map_cons, List.map_nil]); first | done | rfl | (simp only [List.length_drop, List.length_take]; rfl)) ?_; (with_reducible refine (tarrylaw07_alive.calls kj4  true _ A41.out).mono ?_); rintro e w56 ⟨rfl, hb⟩; refine ⟨_, rfl, ?_⟩; have n0_ := Aside0.mk (blk_below (g := gb121) (o := .cells #[.string t122, .string t123, .int .i64 t124, .int .i64 t125, .int .i64 t126] 23 (0, 0)) (by (with_reducible repeat (first | refine blk_drewN ?_ _ | refine blk_drew ?_ | refine blk_alloc ?_ _)); exact BK121.out) hb); have n1_ := Aside0.mk (below_step (by repeat (first | (with_reducible first | exact HB.out | apply below_alloc | apply pw_below_drewN | apply below_drew1 | refine below_set ?_ GE121.out) | exact HB.out)) hb); clear BK121; clear HB; have BK121 := n0_; have HB := n1_; clear n0_ n1_; (try clear hb); (try clear hb2); (try clear hk); (try clear hi); have hcz57_0 : w56.cell? ⟨gb121, 0, none⟩ = some (.string t122) := (blk_cell BK121.out 0).trans rfl; have hcz57_1 : w56.cell? ⟨gb121, 1, none⟩ = some (.string t123) := (blk_cell BK121.out 1).trans rfl; have hcz57_2 : w56.cell? ⟨gb121, 2, none⟩ = some (.int .i64 t124) := (blk_cell BK121.out 2).trans rfl; have hcz57_3 : w56.cell? ⟨gb121, 3, none⟩ = some (.int .i64 t125) := (blk_cell BK121.out 3).trans rfl; have hcz57_4 : w56.cell? ⟨gb121, 4, none⟩ = some (.int .i64 t126) := (blk_cell BK121.out 4).trans rfl; have hfz57_0 := blk_frozen BK121.out 0; have hfz57_1 := blk_frozen BK121.out 1; have hfz57_2 := blk_frozen BK121.out 2; have hfz57_3 := blk_frozen BK121.out 3; have hfz57_4 := blk_frozen BK121.out 4) | (go_at_call 10; (with_reducible refine (tarryref07_Units.calls t122 t123 t124 t125 t126 a1 t134 _ A44.out).mono ?_); rintro e w58 ⟨rfl, hb⟩; have n0_ := Aside0.mk (blk_below (g := gb121) (o := .cells #[.string t122, .string t123, .int .i64 t124, .int .i64 t125, .int .i64 t126] 23 (0, 0)) (by (with_reducible repeat (first | refine blk_drewN ?_ _ | refine blk_drew ?_ | refine blk_alloc ?_ _)); exact BK121.out) hb); have n1_ := Aside0.mk (below_step (by repeat (first | (with_reducible first | exact HB.out | apply below_alloc | apply pw_below_drewN | apply below_drew1 | refine below_set ?_ GE121.out) | exact HB.out)) hb); clear BK121; clear HB; have BK121 := n0_; have HB := n1_; clear n0_ n1_; (try clear hb); (try clear hb2); (try clear hk); (try clear hi); have hcz59_0 : w58.cell? ⟨gb121, 0, none⟩ = some (.string t122) := (blk_cell BK121.out 0).trans rfl; have hcz59_1 : w58.cell? ⟨gb121, 1, none⟩ = some (.string t123) := (blk_cell BK121.out 1).trans rfl; have hcz59_2 : w58.cell? ⟨gb121, 2, none⟩ = some (.int .i64 t124) := (blk_cell BK121.out 2).trans rfl; have hcz59_3 : w58.cell? ⟨gb121, 3, none⟩ = some (.int .i64 t125) := (blk_cell BK121.out 3).trans rfl; have hcz59_4 : w58.cell? ⟨gb121, 4, none⟩ = some (.int .i64 t126) := (blk_cell BK121.out 4).trans rfl; have hfz59_0 := blk_frozen BK121.out 0; have hfz59_1 := blk_frozen BK121.out 1; have hfz59_2 := blk_frozen BK121.out 2; have hfz59_3 := blk_frozen BK121.out 3; have hfz59_4 := blk_frozen BK121.out 4))
                    go_ret
                    exact ⟨by first | rfl | (simp [errW_none, errW_some] <;> rfl) | (simp [*, errW_none, errW_some] <;> rfl), by repeat (first | (with_reducible first | exact HB.out | apply below_alloc | apply pw_below_drewN | apply below_drew1 | refine below_set ?_ GE121.out) | exact HB.out)⟩
                · rw [if_neg c46] at H
                  have c46b0 : decide ((wrap64 (a1 * t125)) ≤ (wrap64 (t127 * t126))) = false := decide_eq_false c46
                  clear c46
                  obtain rfl := Option.some.inj H
                  have hcz60_0 : wc.cell? ⟨gb121, 0, none⟩ = some (.string t122) := (blk_cell BK121.out 0).trans rfl
                  have hcz60_1 : wc.cell? ⟨gb121, 1, none⟩ = some (.string t123) := (blk_cell BK121.out 1).trans rfl
                  have hcz60_2 : wc.cell? ⟨gb121, 2, none⟩ = some (.int .i64 t124) := (blk_cell BK121.out 2).trans rfl
                  have hcz60_3 : wc.cell? ⟨gb121, 3, none⟩ = some (.int .i64 t125) := (blk_cell BK121.out 3).trans rfl
                  have hcz60_4 : wc.cell? ⟨gb121, 4, none⟩ = some (.int .i64 t126) := (blk_cell BK121.out 4).trans rfl
                  have hfz60_0 := blk_frozen BK121.out 0
                  have hfz60_1 := blk_frozen BK121.out 1
                  have hfz60_2 := blk_frozen BK121.out 2
                  have hfz60_3 := blk_frozen BK121.out 3
                  have hfz60_4 := blk_frozen BK121.out 4
                  go_wp2_with (first | ((with_reducible refine gate_callee (f := 10) rfl ?_); refine goesL_ (some 37) rfl rfl Try.func10 (by kernel_rfl) rfl #[.agg #[.string t122, .string t123, .int .i64 t124, .int .i64 t125, .int .i64 t126], .int .i64 a1] rfl (by (try simp only [List.map_toArray, List.map_cons, List.map_nil]); first | done | rfl | (simp only [List.length_drop, List.length_take]; rfl)) ?_; (with_reducible refine (tarryref07_Units.calls t122 t123 t124 t125 t126 a1 t131 _ A27.out).mono ?_); rintro e w61 ⟨rfl, hb⟩; refine ⟨_, rfl, ?_⟩; have n0_ := Aside0.mk (blk_below (g := gb121) (o := .cells #[.string t122, .string t123, .int .i64 t124, .int .i64 t125, .int .i64 t126] 23 (0, 0)) (by (with_reducible repeat (first | refine blk_drewN ?_ _ | refine blk_drew ?_ | refine blk_alloc ?_ _)); exact BK121.out) hb); have n1_ := Aside0.mk (below_step (by repeat (first | (with_reducible first | exact HB.out | apply below_alloc | apply pw_below_drewN | apply below_drew1 | refine below_set ?_ GE121.out) | exact HB.out)) hb); clear BK121; clear HB; have BK121 := n0_; have HB := n1_; clear n0_ n1_; (try clear hb); (try clear hb2); (try clear hk); (try clear hi)) | ((with_reducible refine gate_callee (f := 9) rfl ?_); refine goesL_ (some 48) rfl rfl Try.func9 (by kernel_rfl) rfl #[] rfl (by (try simp only [List.map_toArray, List.map_cons, List.map_nil]); first | done | rfl | (simp only [List.length_drop, List.length_take]; rfl)) ?_; (with_reducible refine (tarrylaw07_alive.calls kj4  true _ A41.out).mono ?_); rintro e w62 ⟨rfl, hb⟩; refine ⟨_, rfl, ?_⟩; have n0_ := Aside0.mk (blk_below (g := gb121) (o := .cells #[.string t122, .string t123, .int .i64 t124, .int .i64 t125, .int .i64 t126] 23 (0, 0)) (by (with_reducible repeat (first | refine blk_drewN ?_ _ | refine blk_drew ?_ | refine blk_alloc ?_ _)); exact BK121.out) hb); have n1_ := Aside0.mk (below_step (by repeat (first | (with_reducible first | exact HB.out | apply below_alloc | apply pw_below_drewN | apply below_drew1 | refine below_set ?_ GE121.out) | exact HB.out)) hb); clear BK121; clear HB; have BK121 := n0_; have HB := n1_; clear n0_ n1_; (try clear hb); (try clear hb2); (try clear hk); (try clear hi); have hcz63_0 : w62.cell? ⟨gb121, 0, none⟩ = some (.string t122) := (blk_cell BK121.out 0).trans rfl; have hcz63_1 : w62.cell? ⟨gb121, 1, none⟩ = some (.string t123) := (blk_cell BK121.out 1).trans rfl; have hcz63_2 : w62.cell? ⟨gb121, 2, none⟩ = some (.int .i64 t124) := (blk_cell BK121.out 2).trans rfl; have hcz63_3 : w62.cell? ⟨gb121, 3, none⟩ = some (.int .i64 t125) := (blk_cell BK121.out 3).trans rfl; have hcz63_4 : w62.cell? ⟨gb121, 4, none⟩ = some (.int .i64 t126) := (blk_cell BK121.out 4).trans rfl; have hfz63_0 := blk_frozen BK121.out 0; have hfz63_1 := blk_frozen BK121.out 1; have hfz63_2 := blk_frozen BK121.out 2; have hfz63_3 := blk_frozen BK121.out 3; have hfz63_4 := blk_frozen BK121.out 4) | (go_at_call 10; (with_reducible refine (tarryref07_Units.calls t122 t123 t124 t125 t126 a1 t134 _ A44.out).mono ?_); rintro e w64 ⟨rfl, hb⟩; have n0_ := Aside0.mk (blk_below (g := gb121) (o := .cells #[.string t122, .string t123, .int .i64 t124, .int .i64 t125, .int .i64 t126] 23 (0, 0)) (by (with_reducible repeat (first | refine blk_drewN ?_ _ | refine blk_drew ?_ | refine blk_alloc ?_ _)); exact BK121.out) hb); have n1_ := Aside0.mk (below_step (by repeat (first | (with_reducible first | exact HB.out | apply below_alloc | apply pw_below_drewN | apply below_drew1 | refine below_set ?_ GE121.out) | exact HB.out)) hb); clear BK121; clear HB; have BK121 := n0_; have HB := n1_; clear n0_ n1_; (try clear hb); (try clear hb2); (try clear hk); (try clear hi); have hcz65_0 : w64.cell? ⟨gb121, 0, none⟩ = some (.string t122) := (blk_cell BK121.out 0).trans rfl; have hcz65_1 : w64.cell? ⟨gb121, 1, none⟩ = some (.string t123) := (blk_cell BK121.out 1).trans rfl; have hcz65_2 : w64.cell? ⟨gb121, 2, none⟩ = some (.int .i64 t124) := (blk_cell BK121.out 2).trans rfl; have hcz65_3 : w64.cell? ⟨gb121, 3, none⟩ = some (.int .i64 t125) := (blk_cell BK121.out 3).trans rfl; have hcz65_4 : w64.cell? ⟨gb121, 4, none⟩ = some (.int .i64 t126) := (blk_cell BK121.out 4).trans rfl; have hfz65_0 := blk_frozen BK121.out 0; have hfz65_1 := blk_frozen BK121.out 1; have hfz65_2 := blk_frozen BK121.out 2; have hfz65_3 := blk_frozen BK121.out 3; have hfz65_4 := blk_frozen BK121.out 4))
                  go_ret
                  exact ⟨by first | rfl | (simp [errW_none, errW_some] <;> rfl) | (simp [*, errW_none, errW_some] <;> rfl), by repeat (first | (with_reducible first | exact HB.out | apply below_alloc | apply pw_below_drewN | apply below_drew1 | refine below_set ?_ GE121.out) | exact HB.out)⟩
              · rw [if_neg c45] at H
                have c45b0 : (t127 == t134) = false := beq_eq_false_iff_ne.mpr c45
                have c45b1 : (t127 != t134) = true := bne_iff_ne.mpr c45
                obtain rfl := Option.some.inj H
                have hcz66_0 : wc.cell? ⟨gb121, 0, none⟩ = some (.string t122) := (blk_cell BK121.out 0).trans rfl
                have hcz66_1 : wc.cell? ⟨gb121, 1, none⟩ = some (.string t123) := (blk_cell BK121.out 1).trans rfl
                have hcz66_2 : wc.cell? ⟨gb121, 2, none⟩ = some (.int .i64 t124) := (blk_cell BK121.out 2).trans rfl
                have hcz66_3 : wc.cell? ⟨gb121, 3, none⟩ = some (.int .i64 t125) := (blk_cell BK121.out 3).trans rfl
                have hcz66_4 : wc.cell? ⟨gb121, 4, none⟩ = some (.int .i64 t126) := (blk_cell BK121.out 4).trans rfl
                have hfz66_0 := blk_frozen BK121.out 0
                have hfz66_1 := blk_frozen BK121.out 1
                have hfz66_2 := blk_frozen BK121.out 2
                have hfz66_3 := blk_frozen BK121.out 3
                have hfz66_4 := blk_frozen BK121.out 4
                go_wp2_with (first | ((with_reducible refine gate_callee (f := 10) rfl ?_); refine goesL_ (some 37) rfl rfl Try.func10 (by kernel_rfl) rfl #[.agg #[.string t122, .string t123, .int .i64 t124, .int .i64 t125, .int .i64 t126], .int .i64 a1] rfl (by (try simp only [List.map_toArray, List.map_cons, List.map_nil]); first | done | rfl | (simp only [List.length_drop, List.length_take]; rfl)) ?_; (with_reducible refine (tarryref07_Units.calls t122 t123 t124 t125 t126 a1 t131 _ A27.out).mono ?_); rintro e w67 ⟨rfl, hb⟩; refine ⟨_, rfl, ?_⟩; have n0_ := Aside0.mk (blk_below (g := gb121) (o := .cells #[.string t122, .string t123, .int .i64 t124, .int .i64 t125, .int .i64 t126] 23 (0, 0)) (by (with_reducible repeat (first | refine blk_drewN ?_ _ | refine blk_drew ?_ | refine blk_alloc ?_ _)); exact BK121.out) hb); have n1_ := Aside0.mk (below_step (by repeat (first | (with_reducible first | exact HB.out | apply below_alloc | apply pw_below_drewN | apply below_drew1 | refine below_set ?_ GE121.out) | exact HB.out)) hb); clear BK121; clear HB; have BK121 := n0_; have HB := n1_; clear n0_ n1_; (try clear hb); (try clear hb2); (try clear hk); (try clear hi)) | ((with_reducible refine gate_callee (f := 9) rfl ?_); refine goesL_ (some 48) rfl rfl Try.func9 (by kernel_rfl) rfl #[] rfl (by (try simp only [List.map_toArray, List.map_cons, List.map_nil]); first | done | rfl | (simp only [List.length_drop, List.length_take]; rfl)) ?_; (with_reducible refine (tarrylaw07_alive.calls kj4  true _ A41.out).mono ?_); rintro e w68 ⟨rfl, hb⟩; refine ⟨_, rfl, ?_⟩; have n0_ := Aside0.mk (blk_below (g := gb121) (o := .cells #[.string t122, .string t123, .int .i64 t124, .int .i64 t125, .int .i64 t126] 23 (0, 0)) (by (with_reducible repeat (first | refine blk_drewN ?_ _ | refine blk_drew ?_ | refine blk_alloc ?_ _)); exact BK121.out) hb); have n1_ := Aside0.mk (below_step (by repeat (first | (with_reducible first | exact HB.out | apply below_alloc | apply pw_below_drewN | apply below_drew1 | refine below_set ?_ GE121.out) | exact HB.out)) hb); clear BK121; clear HB; have BK121 := n0_; have HB := n1_; clear n0_ n1_; (try clear hb); (try clear hb2); (try clear hk); (try clear hi); have hcz69_0 : w68.cell? ⟨gb121, 0, none⟩ = some (.string t122) := (blk_cell BK121.out 0).trans rfl; have hcz69_1 : w68.cell? ⟨gb121, 1, none⟩ = some (.string t123) := (blk_cell BK121.out 1).trans rfl; have hcz69_2 : w68.cell? ⟨gb121, 2, none⟩ = some (.int .i64 t124) := (blk_cell BK121.out 2).trans rfl; have hcz69_3 : w68.cell? ⟨gb121, 3, none⟩ = some (.int .i64 t125) := (blk_cell BK121.out 3).trans rfl; have hcz69_4 : w68.cell? ⟨gb121, 4, none⟩ = some (.int .i64 t126) := (blk_cell BK121.out 4).trans rfl; have hfz69_0 := blk_frozen BK121.out 0; have hfz69_1 := blk_frozen BK121.out 1; have hfz69_2 := blk_frozen BK121.out 2; have hfz69_3 := blk_frozen BK121.out 3; have hfz69_4 := blk_frozen BK121.out 4) | (go_at_call 10; (with_reducible refine (tarryref07_Units.calls t122 t123 t124 t125 t126 a1 t134 _ A44.out).mono ?_); rintro e w70 ⟨rfl, hb⟩; have n0_ := Aside0.mk (blk_below (g := gb121) (o := .cells #[.string t122, .string t123, .int .i64 t124, .int .i64 t125, .int .i64 t126] 23 (0, 0)) (by (with_reducible repeat (first | refine blk_drewN ?_ _ | refine blk_drew ?_ | refine blk_alloc ?_ _)); exact BK121.out) hb); have n1_ := Aside0.mk (below_step (by repeat (first | (with_reducible first | exact HB.out | apply below_alloc | apply pw_below_drewN | apply below_drew1 | refine below_set ?_ GE121.out) | exact HB.out)) hb); clear BK121; clear HB; have BK121 := n0_; have HB := n1_; clear n0_ n1_; (try clear hb); (try clear hb2); (try clear hk); (try clear hi)))
                go_ret
                exact ⟨by first | rfl | (simp [errW_none, errW_some] <;> rfl) | (simp [*, errW_none, errW_some] <;> rfl), by repeat (first | (with_reducible first | exact HB.out | apply below_alloc | apply pw_below_drewN | apply below_drew1 | refine below_set ?_ GE121.out) | exact HB.out)⟩
            · rw [if_neg c43] at H
              have c43b0 : (t128 == 0) = false := beq_eq_false_iff_ne.mpr c43
              have c43b1 : (t128 != 0) = true := bne_iff_ne.mpr c43
              obtain rfl := Option.some.inj H
              have hcz71_0 : wc.cell? ⟨gb121, 0, none⟩ = some (.string t122) := (blk_cell BK121.out 0).trans rfl
              have hcz71_1 : wc.cell? ⟨gb121, 1, none⟩ = some (.string t123) := (blk_cell BK121.out 1).trans rfl
              have hcz71_2 : wc.cell? ⟨gb121, 2, none⟩ = some (.int .i64 t124) := (blk_cell BK121.out 2).trans rfl
              have hcz71_3 : wc.cell? ⟨gb121, 3, none⟩ = some (.int .i64 t125) := (blk_cell BK121.out 3).trans rfl
              have hcz71_4 : wc.cell? ⟨gb121, 4, none⟩ = some (.int .i64 t126) := (blk_cell BK121.out 4).trans rfl
              have hfz71_0 := blk_frozen BK121.out 0
              have hfz71_1 := blk_frozen BK121.out 1
              have hfz71_2 := blk_frozen BK121.out 2
              have hfz71_3 := blk_frozen BK121.out 3
              have hfz71_4 := blk_frozen BK121.out 4
              go_wp2_with (first | ((with_reducible refine gate_callee (f := 10) rfl ?_); refine goesL_ (some 37) rfl rfl Try.func10 (by kernel_rfl) rfl #[.agg #[.string t122, .string t123, .int .i64 t124, .int .i64 t125, .int .i64 t126], .int .i64 a1] rfl (by (try simp only [List.map_toArray, List.map_cons, List.map_nil]); first | done | rfl | (simp only [List.length_drop, List.length_take]; rfl)) ?_; (with_reducible refine (tarryref07_Units.calls t122 t123 t124 t125 t126 a1 t131 _ A27.out).mono ?_); rintro e w72 ⟨rfl, hb⟩; refine ⟨_, rfl, ?_⟩; have n0_ := Aside0.mk (blk_below (g := gb121) (o := .cells #[.string t122, .string t123, .int .i64 t124, .int .i64 t125, .int .i64 t126] 23 (0, 0)) (by (with_reducible repeat (first | refine blk_drewN ?_ _ | refine blk_drew ?_ | refine blk_alloc ?_ _)); exact BK121.out) hb); have n1_ := Aside0.mk (below_step (by repeat (first | (with_reducible first | exact HB.out | apply below_alloc | apply pw_below_drewN | apply below_drew1 | refine below_set ?_ GE121.out) | exact HB.out)) hb); clear BK121; clear HB; have BK121 := n0_; have HB := n1_; clear n0_ n1_; (try clear hb); (try clear hb2); (try clear hk); (try clear hi)) | ((with_reducible refine gate_callee (f := 9) rfl ?_); refine goesL_ (some 48) rfl rfl Try.func9 (by kernel_rfl) rfl #[] rfl (by (try simp only [List.map_toArray, List.map_cons, List.map_nil]); first | done | rfl | (simp only [List.length_drop, List.length_take]; rfl)) ?_; (with_reducible refine (tarrylaw07_alive.calls kj4  true _ A41.out).mono ?_); rintro e w73 ⟨rfl, hb⟩; refine ⟨_, rfl, ?_⟩; have n0_ := Aside0.mk (blk_below (g := gb121) (o := .cells #[.string t122, .string t123, .int .i64 t124, .int .i64 t125, .int .i64 t126] 23 (0, 0)) (by (with_reducible repeat (first | refine blk_drewN ?_ _ | refine blk_drew ?_ | refine blk_alloc ?_ _)); exact BK121.out) hb); have n1_ := Aside0.mk (below_step (by repeat (first | (with_reducible first | exact HB.out | apply below_alloc | apply pw_below_drewN | apply below_drew1 | refine below_set ?_ GE121.out) | exact HB.out)) hb); clear BK121; clear HB; have BK121 := n0_; have HB := n1_; clear n0_ n1_; (try clear hb); (try clear hb2); (try clear hk); (try clear hi)))
              go_ret
              exact ⟨by first | rfl | (simp [errW_none, errW_some] <;> rfl) | (simp [*, errW_none, errW_some] <;> rfl), by repeat (first | (with_reducible first | exact HB.out | apply below_alloc | apply pw_below_drewN | apply below_drew1 | refine below_set ?_ GE121.out) | exact HB.out)⟩
          · replace c42 := Bool.eq_false_iff.mpr c42
            subst c42
            have H1 : (some false) = some r := by rw [if_neg (show ¬ (false = true) by decide)] at H; exact H
            clear H
            have H := H1
            clear H1
            obtain rfl := Option.some.inj H
            have hcz74_0 : wc.cell? ⟨gb121, 0, none⟩ = some (.string t122) := (blk_cell BK121.out 0).trans rfl
            have hcz74_1 : wc.cell? ⟨gb121, 1, none⟩ = some (.string t123) := (blk_cell BK121.out 1).trans rfl
            have hcz74_2 : wc.cell? ⟨gb121, 2, none⟩ = some (.int .i64 t124) := (blk_cell BK121.out 2).trans rfl
            have hcz74_3 : wc.cell? ⟨gb121, 3, none⟩ = some (.int .i64 t125) := (blk_cell BK121.out 3).trans rfl
            have hcz74_4 : wc.cell? ⟨gb121, 4, none⟩ = some (.int .i64 t126) := (blk_cell BK121.out 4).trans rfl
            have hfz74_0 := blk_frozen BK121.out 0
            have hfz74_1 := blk_frozen BK121.out 1
            have hfz74_2 := blk_frozen BK121.out 2
            have hfz74_3 := blk_frozen BK121.out 3
            have hfz74_4 := blk_frozen BK121.out 4
            go_wp2_with (first | ((with_reducible refine gate_callee (f := 10) rfl ?_); refine goesL_ (some 37) rfl rfl Try.func10 (by kernel_rfl) rfl #[.agg #[.string t122, .string t123, .int .i64 t124, .int .i64 t125, .int .i64 t126], .int .i64 a1] rfl (by (try simp only [List.map_toArray, List.map_cons, List.map_nil]); first | done | rfl | (simp only [List.length_drop, List.length_take]; rfl)) ?_; (with_reducible refine (tarryref07_Units.calls t122 t123 t124 t125 t126 a1 t131 _ A27.out).mono ?_); rintro e w75 ⟨rfl, hb⟩; refine ⟨_, rfl, ?_⟩; have n0_ := Aside0.mk (blk_below (g := gb121) (o := .cells #[.string t122, .string t123, .int .i64 t124, .int .i64 t125, .int .i64 t126] 23 (0, 0)) (by (with_reducible repeat (first | refine blk_drewN ?_ _ | refine blk_drew ?_ | refine blk_alloc ?_ _)); exact BK121.out) hb); have n1_ := Aside0.mk (below_step (by repeat (first | (with_reducible first | exact HB.out | apply below_alloc | apply pw_below_drewN | apply below_drew1 | refine below_set ?_ GE121.out) | exact HB.out)) hb); clear BK121; clear HB; have BK121 := n0_; have HB := n1_; clear n0_ n1_; (try clear hb); (try clear hb2); (try clear hk); (try clear hi)) | ((with_reducible refine gate_callee (f := 9) rfl ?_); refine goesL_ (some 48) rfl rfl Try.func9 (by kernel_rfl) rfl #[] rfl (by (try simp only [List.map_toArray, List.map_cons, List.map_nil]); first | done | rfl | (simp only [List.length_drop, List.length_take]; rfl)) ?_; (with_reducible refine (tarrylaw07_alive.calls kj4  false _ A41.out).mono ?_); rintro e w76 ⟨rfl, hb⟩; refine ⟨_, rfl, ?_⟩; have n0_ := Aside0.mk (blk_below (g := gb121) (o := .cells #[.string t122, .string t123, .int .i64 t124, .int .i64 t125, .int .i64 t126] 23 (0, 0)) (by (with_reducible repeat (first | refine blk_drewN ?_ _ | refine blk_drew ?_ | refine blk_alloc ?_ _)); exact BK121.out) hb); have n1_ := Aside0.mk (below_step (by repeat (first | (with_reducible first | exact HB.out | apply below_alloc | apply pw_below_drewN | apply below_drew1 | refine below_set ?_ GE121.out) | exact HB.out)) hb); clear BK121; clear HB; have BK121 := n0_; have HB := n1_; clear n0_ n1_; (try clear hb); (try clear hb2); (try clear hk); (try clear hi)))
            go_ret
            exact ⟨by first | rfl | (simp [errW_none, errW_some] <;> rfl) | (simp [*, errW_none, errW_some] <;> rfl), by repeat (first | (with_reducible first | exact HB.out | apply below_alloc | apply pw_below_drewN | apply below_drew1 | refine below_set ?_ GE121.out) | exact HB.out)⟩

def ok23 (x : S23) : Prop := (x.f0.size ≤ 9223372036854775807) ∧ (x.f1.size ≤ 9223372036854775807) ∧ ((Lit.int .i64 x.f2).wf = true) ∧ ((Lit.int .i64 x.f3).wf = true) ∧ ((Lit.int .i64 x.f4).wf = true)
/-- THE ONE PURE STATEMENT of tarrylaw07_GoodsUnits. -/
def tarrylaw07_GoodsUnits.Pure : Prop := ∀ (a0_0 : ByteArray) (a0_1 : ByteArray) (a0_2 : Int) (a0_3 : Int) (a0_4 : Int) (a1 : Int), (a0_0.size ≤ 9223372036854775807) → (a0_1.size ≤ 9223372036854775807) → ((Lit.int .i64 a0_2).wf = true) → ((Lit.int .i64 a0_3).wf = true) → ((Lit.int .i64 a0_4).wf = true) → (Lit.int .i64 a1).wf = true → ∃ k, tarrylaw07_GoodsUnits.f k a0_0 a0_1 a0_2 a0_3 a0_4 a1 = some true

end Go.Proofs.Ytoiihpmncphplaa.PGoodsUnits
