/- Written by a program of this repo over the kit's print program: what the program's functions do, each as a Lean function, shown of the loaded code; or a statement's row over that; no condition of its own. -/
import Derived.Test.YtlkcagbkempaeaaPAskOncex0
import Derived.Test.YtlkcagbkempaeaaPAskOncex2
namespace Go.Proofs.Ytlkcagbkempaeaa.PAskOnce
open Go.RowKit Go.Proofs.YtlkcagbkempaeaaW.PrintWords Go.Proofs.YtlkcagbkempaeaaW.PrintLast Go.Proofs.YtlkcagbkempaeaaW.PrintMore
attribute [local go_sem] max2_int min2_int max_two min_two max_three min_three max_four min_four   -- for this text's walks alone
set_option linter.unusedVariables false
set_option linter.unusedSimpArgs false

/-! ### tarrylaw12_AskOnce: function 4 -/
mutual
def tarrylaw12_AskOnce.l0 : Nat → Int → Int → Int → Int → List (S36) → Int → Int → Int → Int → Option (Bool)
  | 0, _, _, _, _, _, _, _, _, _ => none
  | k + 1, x4, x5, x6, x7, x17, x18, x19, x122000, x122001 => if x19 < x18 then (if 0 ≤ x19 then (if x19 < (x17.length : Int) then (if x19 ≥ 20 then ((tarrylaw12_alive.f k).bind fun t125 => (some t125)) else (if (Int.tmod (wrap64 ((Int.tmod ((rd_T36 x17 x19).f0) 3) + 3)) 3) = 0 then ((ask_Begin.f k x122000 x122001 (wrap64 ((wrap64 (x4 + (Int.tmod (wrap64 ((Int.tmod ((rd_T36 x17 x19).f1) 20) + 20)) 20))) + 10))).bind fun bt126 => (if bt126.2.2 = 0 then (tarrylaw12_AskOnce.j1 k (wrap64 (x4 + (Int.tmod (wrap64 ((Int.tmod ((rd_T36 x17 x19).f1) 20) + 20)) 20))) (wrap64 (x5 + 1)) x6 (wrap64 ((wrap64 (x4 + (Int.tmod (wrap64 ((Int.tmod ((rd_T36 x17 x19).f1) 20) + 20)) 20))) + 10)) x17 x18 x19 bt126.1 bt126.2.1) else (tarrylaw12_AskOnce.j1 k (wrap64 (x4 + (Int.tmod (wrap64 ((Int.tmod ((rd_T36 x17 x19).f1) 20) + 20)) 20))) x5 x6 x7 x17 x18 x19 x122000 x122001))) else (if (Int.tmod (wrap64 ((Int.tmod ((rd_T36 x17 x19).f0) 3) + 3)) 3) = 1 then ((ask_Answer.f x122000 x122001 ((rd_T36 x17 x19).f2) (wrap64 (x4 + (Int.tmod (wrap64 ((Int.tmod ((rd_T36 x17 x19).f1) 20) + 20)) 20)))).bind fun bt130 => (if bt130.2.2 = 0 then (if (rd_T36 x17 x19).f2 = true then (if x5 = 1 then (if (wrap64 (x4 + (Int.tmod (wrap64 ((Int.tmod ((rd_T36 x17 x19).f1) 20) + 20)) 20))) ≥ x7 then (some false) else (tarrylaw12_AskOnce.j1 k (wrap64 (x4 + (Int.tmod (wrap64 ((Int.tmod ((rd_T36 x17 x19).f1) 20) + 20)) 20))) x5 (wrap64 (x6 + 1)) x7 x17 x18 x19 bt130.1 bt130.2.1)) else (some false)) else (if x5 = 1 then (if (wrap64 (x4 + (Int.tmod (wrap64 ((Int.tmod ((rd_T36 x17 x19).f1) 20) + 20)) 20))) ≥ x7 then (some false) else (tarrylaw12_AskOnce.j1 k (wrap64 (x4 + (Int.tmod (wrap64 ((Int.tmod ((rd_T36 x17 x19).f1) 20) + 20)) 20))) x5 x6 x7 x17 x18 x19 bt130.1 bt130.2.1)) else (some false))) else (tarrylaw12_AskOnce.j1 k (wrap64 (x4 + (Int.tmod (wrap64 ((Int.tmod ((rd_T36 x17 x19).f1) 20) + 20)) 20))) x5 x6 x7 x17 x18 x19 x122000 x122001))) else ((ask_Lapse.f x122000 x122001 (wrap64 (x4 + (Int.tmod (wrap64 ((Int.tmod ((rd_T36 x17 x19).f1) 20) + 20)) 20)))).bind fun bt134 => (if bt134.2.2.2 = 0 then (tarrylaw12_AskOnce.j1 k (wrap64 (x4 + (Int.tmod (wrap64 ((Int.tmod ((rd_T36 x17 x19).f1) 20) + 20)) 20))) x5 x6 x7 x17 x18 x19 bt134.1 bt134.2.1) else (some false)))))) else (none)) else (none)) else ((tarrylaw12_alive.f k).bind fun t122 => (some t122))
def tarrylaw12_AskOnce.j1 : Nat → Int → Int → Int → Int → List (S36) → Int → Int → Int → Int → Option (Bool)
  | 0, _, _, _, _, _, _, _, _, _ => none
  | k + 1, x4, x5, x6, x7, x17, x18, x19, x122000, x122001 => if x5 > 1 then (tarrylaw12_AskOnce.j2 k x4 x5 x6 x7 x17 x18 x19 true x122000 x122001) else (if x6 > 1 then (tarrylaw12_AskOnce.j2 k x4 x5 x6 x7 x17 x18 x19 true x122000 x122001) else ((ask_Right.f x122000 x122001).bind fun t139 => (if t139 = true then ((ask_May.f x122000 x122001 x4).bind fun t140 => (if t140 = true then (if x6 = 1 then (tarrylaw12_AskOnce.j2 k x4 x5 x6 x7 x17 x18 x19 (decide (x4 ≥ x7)) x122000 x122001) else (tarrylaw12_AskOnce.j2 k x4 x5 x6 x7 x17 x18 x19 true x122000 x122001)) else (tarrylaw12_AskOnce.j2 k x4 x5 x6 x7 x17 x18 x19 false x122000 x122001))) else (tarrylaw12_AskOnce.j2 k x4 x5 x6 x7 x17 x18 x19 true x122000 x122001))))
def tarrylaw12_AskOnce.j2 : Nat → Int → Int → Int → Int → List (S36) → Int → Int → Bool → Int → Int → Option (Bool)
  | 0, _, _, _, _, _, _, _, _, _, _ => none
  | k + 1, x4, x5, x6, x7, x17, x18, x19, x112, x122000, x122001 => if x112 = true then (some false) else (if x6 = 1 then (if x4 < x7 then ((ask_May.f x122000 x122001 x4).bind fun t141 => (if t141 = true then (tarrylaw12_AskOnce.l0 k x4 x5 x6 x7 x17 x18 (wrap64 (x19 + 1)) x122000 x122001) else (some false))) else (tarrylaw12_AskOnce.l0 k x4 x5 x6 x7 x17 x18 (wrap64 (x19 + 1)) x122000 x122001)) else (tarrylaw12_AskOnce.l0 k x4 x5 x6 x7 x17 x18 (wrap64 (x19 + 1)) x122000 x122001))
end
def tarrylaw12_AskOnce.f (k : Nat) (l0 : List (S36)) : Option (Bool) := tarrylaw12_AskOnce.l0 k 0 0 0 0 l0 (l0.length : Int) 0 0 0
theorem tarrylaw12_AskOnce.mono_l : ∀ k, (∀ y0 y1 y2 y3 y4 y5 y6 y7 y8, LeO (tarrylaw12_AskOnce.l0 k y0 y1 y2 y3 y4 y5 y6 y7 y8) (tarrylaw12_AskOnce.l0 (k + 1) y0 y1 y2 y3 y4 y5 y6 y7 y8)) ∧ (∀ y0 y1 y2 y3 y4 y5 y6 y7 y8, LeO (tarrylaw12_AskOnce.j1 k y0 y1 y2 y3 y4 y5 y6 y7 y8) (tarrylaw12_AskOnce.j1 (k + 1) y0 y1 y2 y3 y4 y5 y6 y7 y8)) ∧ (∀ y0 y1 y2 y3 y4 y5 y6 y7 y8 y9, LeO (tarrylaw12_AskOnce.j2 k y0 y1 y2 y3 y4 y5 y6 y7 y8 y9) (tarrylaw12_AskOnce.j2 (k + 1) y0 y1 y2 y3 y4 y5 y6 y7 y8 y9))
  | 0 => ⟨fun _ _ _ _ _ _ _ _ _ r h => by simp [tarrylaw12_AskOnce.l0] at h, fun _ _ _ _ _ _ _ _ _ r h => by simp [tarrylaw12_AskOnce.j1] at h, fun _ _ _ _ _ _ _ _ _ _ r h => by simp [tarrylaw12_AskOnce.j2] at h⟩
  | k + 1 => by
    obtain ⟨ih0, ih1, ih2⟩ := tarrylaw12_AskOnce.mono_l k
    refine ⟨?_, ?_, ?_⟩
    · intro y0 y1 y2 y3 y4 y5 y6 y7 y8
      unfold tarrylaw12_AskOnce.l0
      repeat' first
      | (with_reducible exact ih0 _ _ _ _ _ _ _ _ _)
      | (with_reducible exact ih1 _ _ _ _ _ _ _ _ _)
      | (with_reducible exact ih2 _ _ _ _ _ _ _ _ _ _)
      | (with_reducible exact ask_Begin.mono _ _ _ _)
      | (with_reducible exact tarrylaw12_alive.mono _)
      | (with_reducible exact LeO.refl _)
      | (with_reducible exact LeO.none _)
      | (with_reducible refine LeO.ite ?_ ?_)
      | (with_reducible refine LeO.bind ?_ (fun _ => ?_))
      | exact ih0 _ _ _ _ _ _ _ _ _
      | exact ih1 _ _ _ _ _ _ _ _ _
      | exact ih2 _ _ _ _ _ _ _ _ _ _
      | exact ask_Begin.mono _ _ _ _
      | exact tarrylaw12_alive.mono _
      | exact LeO.none _
      | refine LeO.ite ?_ ?_
      | refine LeO.bind ?_ (fun _ => ?_)
    · intro y0 y1 y2 y3 y4 y5 y6 y7 y8
      unfold tarrylaw12_AskOnce.j1
      repeat' first
      | (with_reducible exact ih0 _ _ _ _ _ _ _ _ _)
      | (with_reducible exact ih1 _ _ _ _ _ _ _ _ _)
      | (with_reducible exact ih2 _ _ _ _ _ _ _ _ _ _)
      | (with_reducible exact ask_Begin.mono _ _ _ _)
      | (with_reducible exact tarrylaw12_alive.mono _)
      | (with_reducible exact LeO.refl _)
      | (with_reducible exact LeO.none _)
      | (with_reducible refine LeO.ite ?_ ?_)
      | (with_reducible refine LeO.bind ?_ (fun _ => ?_))
      | exact ih0 _ _ _ _ _ _ _ _ _
      | exact ih1 _ _ _ _ _ _ _ _ _
      | exact ih2 _ _ _ _ _ _ _ _ _ _
      | exact ask_Begin.mono _ _ _ _
      | exact tarrylaw12_alive.mono _
      | exact LeO.none _
      | refine LeO.ite ?_ ?_
      | refine LeO.bind ?_ (fun _ => ?_)
    · intro y0 y1 y2 y3 y4 y5 y6 y7 y8 y9
      unfold tarrylaw12_AskOnce.j2
      repeat' first
      | (with_reducible exact ih0 _ _ _ _ _ _ _ _ _)
      | (with_reducible exact ih1 _ _ _ _ _ _ _ _ _)
      | (with_reducible exact ih2 _ _ _ _ _ _ _ _ _ _)
      | (with_reducible exact ask_Begin.mono _ _ _ _)
      | (with_reducible exact tarrylaw12_alive.mono _)
      | (with_reducible exact LeO.refl _)
      | (with_reducible exact LeO.none _)
      | (with_reducible refine LeO.ite ?_ ?_)
      | (with_reducible refine LeO.bind ?_ (fun _ => ?_))
      | exact ih0 _ _ _ _ _ _ _ _ _
      | exact ih1 _ _ _ _ _ _ _ _ _
      | exact ih2 _ _ _ _ _ _ _ _ _ _
      | exact ask_Begin.mono _ _ _ _
      | exact tarrylaw12_alive.mono _
      | exact LeO.none _
      | refine LeO.ite ?_ ?_
      | refine LeO.bind ?_ (fun _ => ?_)
theorem tarrylaw12_AskOnce.mono : ∀ a0 k, LeO (tarrylaw12_AskOnce.f k a0) (tarrylaw12_AskOnce.f (k + 1) a0) := by
  intro a0 k
  obtain ⟨ih0, ih1, ih2⟩ := tarrylaw12_AskOnce.mono_l k
  unfold tarrylaw12_AskOnce.f
  repeat' first
      | (with_reducible exact ih0 _ _ _ _ _ _ _ _ _)
      | (with_reducible exact ih1 _ _ _ _ _ _ _ _ _)
      | (with_reducible exact ih2 _ _ _ _ _ _ _ _ _ _)
      | (with_reducible exact ask_Begin.mono _ _ _ _)
      | (with_reducible exact tarrylaw12_alive.mono _)
      | (with_reducible exact LeO.refl _)
      | (with_reducible exact LeO.none _)
      | (with_reducible refine LeO.ite ?_ ?_)
      | (with_reducible refine LeO.bind ?_ (fun _ => ?_))
      | exact ih0 _ _ _ _ _ _ _ _ _
      | exact ih1 _ _ _ _ _ _ _ _ _
      | exact ih2 _ _ _ _ _ _ _ _ _ _
      | exact ask_Begin.mono _ _ _ _
      | exact tarrylaw12_alive.mono _
      | exact LeO.none _
      | refine LeO.ite ?_ ?_
      | refine LeO.bind ?_ (fun _ => ?_)
set_option maxHeartbeats 8000000 in
set_option maxRecDepth 100000 in
theorem tarrylaw12_AskOnce.calls (k : Nat) (A0 : Option Addr) (c0 : Nat) (l0 : List (S36)) (r : Bool) (w : World) (hr0 : Kd.C k36 w A0 l0.length l0) (hc0 : l0.length ≤ c0) (h : tarrylaw12_AskOnce.f k l0 = some r) :
    Calls Try.prog 4 #[.slice A0 l0.length c0] w fun e w' => e = .returned (.bool r) ∧ Below w.heap.size w w' := by
  have hu23 := Try.underlying23
  have hu36 := Try.underlying36
  have HR0 := Aside0.mk hr0
  have HC0 := Aside0.mk hc0
  clear hr0 hc0
  have HB := Aside0.mk (Below.refl w.heap.size w)
  have H : (tarrylaw12_AskOnce.l0 k 0 0 0 0 l0 (l0.length : Int) 0 0 0) = some r := h
  clear h
  have H' := Aside0.mk H
  clear H
  go_enter Try.func4, Try.ntmps4
  go_wp2_with (first | ((with_reducible refine gate_dst (N := 3) rfl ?_); refine box_event ?hg (N := 3) ?hd (cs := #[.int .i64 0, .int .i64 0]) (t := 23) ?hr ?_; (case hd => rfl); (case hg => rfl); (case hr => first | (go_simp; done) | (go_simp; rfl)); intro gb121 hg w2 hbox hb; have n0_ := Aside0.mk (below_step (by repeat (first | (with_reducible first | exact HB.out | apply below_alloc | apply pw_below_drewN | apply below_drew1) | exact HB.out)) hb); have n1_ := Aside0.mk (hbox); have n2_ := Aside0.mk ((by rw [hg]; exact (below_size (by repeat (first | (with_reducible first | exact HB.out | apply below_alloc | apply pw_below_drewN | apply below_drew1) | exact HB.out))) : w.heap.size ≤ gb121)); have n3_ := Aside0.mk ((by rw [hg]; exact (below_size (by repeat (first | (with_reducible first | exact HB.out | apply below_alloc | apply pw_below_drewN | apply below_drew1) | exact HB.out))) : w.heap.size ≤ gb121)); clear HB; have HB := n0_; have BK121 := n1_; have GW121 := n2_; have GE121 := n3_; clear n0_ n1_ n2_ n3_; clear hb hbox hg))
  go_loopg [4, 5, 6, 7, 19] k (fun kq v4 v5 v6 v7 v19 w' => ∃ (x4_1 : Int) (x5_1 : Int) (x6_1 : Int) (x7_1 : Int) (x19_1 : Int) (x122000_1 : Int) (x122001_1 : Int), v4 = .int .i64 x4_1 ∧ v5 = .int .i64 x5_1 ∧ v6 = .int .i64 x6_1 ∧ v7 = .int .i64 x7_1 ∧ v19 = .int .i64 x19_1 ∧ Aside0 (tarrylaw12_AskOnce.l0 kq x4_1 x5_1 x6_1 x7_1 l0 (l0.length : Int) x19_1 x122000_1 x122001_1 = some r) ∧ Aside0 (kq ≤ k) ∧ Aside0 (w'.heap[gb121]? = some (.cells #[.int .i64 x122000_1, .int .i64 x122001_1] 23 (0, 0))) ∧ Aside0 (Below w.heap.size w w'))
  case atStart => exact ⟨(0), (0), (0), (0), (0), (0), (0), (by first | rfl | (simp; done) | (simp [*]; done)), (by first | rfl | (simp; done) | (simp [*]; done)), (by first | rfl | (simp; done) | (simp [*]; done)), (by first | rfl | (simp; done) | (simp [*]; done)), (by first | rfl | (simp; done) | (simp [*]; done)), H', ⟨Nat.le_refl _⟩, ⟨by (with_reducible repeat (first | refine blk_drewN ?_ _ | refine blk_drew ?_ | refine blk_alloc ?_ _)); exact BK121.out⟩, ⟨by repeat (first | (with_reducible first | exact HB.out | apply below_alloc | apply pw_below_drewN | apply below_drew1 | refine below_set ?_ GE121.out) | exact HB.out)⟩⟩
  case round =>
    clear H'
    try clear p2
    obtain ⟨x4_1, x5_1, x6_1, x7_1, x19_1, x122000_1, x122001_1, rfl, rfl, rfl, rfl, rfl, HA, HK1, BK121, HB⟩ := hrel
    cases gk with
    | zero => exact absurd HA.out (by simp [tarrylaw12_AskOnce.l0])
    | succ k1 =>
      have H := HA.out
      clear HA
      simp only [tarrylaw12_AskOnce.l0] at H
      by_cases c3 : x19_1 < (l0.length : Int)
      · rw [if_pos c3] at H
        have c3b0 : decide (x19_1 < (l0.length : Int)) = true := decide_eq_true c3
        clear c3
        by_cases c4 : 0 ≤ x19_1
        · rw [if_pos c4] at H
          have c4b0 : decide (0 ≤ x19_1) = true := decide_eq_true c4
          clear c4
          by_cases c5 : x19_1 < (l0.length : Int)
          · rw [if_pos c5] at H
            have c5b0 : decide (x19_1 < (l0.length : Int)) = true := decide_eq_true c5
            clear c5
            by_cases c6 : x19_1 ≥ 20
            · rw [if_pos c6] at H
              have c6b0 : decide (20 ≤ x19_1) = true := decide_eq_true c6
              clear c6
              replace H := Option.bind_eq_some_iff.mp H
              obtain ⟨t125, A70, H⟩ := H
              replace H : (some t125) = some r := H
              have A7 := Aside0.mk A70
              clear A70
              obtain rfl := Option.some.inj H
              have p123 : 0 ≤ (x19_1 : Int) := of_decide_eq_true (by first | (with_reducible assumption) | assumption)
              have q123 : x19_1 < (l0.length : Int) := of_decide_eq_true (by first | (with_reducible assumption) | assumption)
              obtain ⟨ad123, e123, hx123_0, hx123_1, hx123_2⟩ := at_T36 HR0.out x19_1 p123 q123
              cases e123
              replace hx123_0 := (HB.out.cell (World.block_lt_of_cell? w _ hx123_0)).trans hx123_0
              replace hx123_1 := (HB.out.cell (World.block_lt_of_cell? w _ hx123_1)).trans hx123_1
              replace hx123_2 := (HB.out.cell (World.block_lt_of_cell? w _ hx123_2)).trans hx123_2
              replace p123 := eq_true p123
              replace q123 := eq_true q123
              go_wp2_with (first | ((with_reducible refine gate_dst (N := 9) rfl ?_); refine box_event ?hg (N := 9) ?hd (cs := #[.int .i64 0, .int .i64 0, .bool false]) (t := 36) ?hr ?_; (case hd => rfl); (case hg => rfl); (case hr => first | (go_simp; done) | (go_simp; rfl)); intro gb124 hg w8 hbox hb; have n0_ := Aside0.mk (blk_below (g := gb121) (o := .cells #[.int .i64 x122000_1, .int .i64 x122001_1] 23 (0, 0)) (by (with_reducible repeat (first | refine blk_drewN ?_ _ | refine blk_drew ?_ | refine blk_alloc ?_ _)); exact BK121.out) hb); have n1_ := Aside0.mk (below_step (by repeat (first | (with_reducible first | exact HB.out | apply below_alloc | apply pw_below_drewN | apply below_drew1 | refine below_set ?_ GE121.out) | exact HB.out)) hb); have n2_ := Aside0.mk (hbox); have n3_ := Aside0.mk ((by rw [hg]; exact (below_size (by repeat (first | (with_reducible first | exact HB.out | apply below_alloc | apply pw_below_drewN | apply below_drew1 | refine below_set ?_ GE121.out) | exact HB.out))) : w.heap.size ≤ gb124)); have n4_ := Aside0.mk ((by rw [hg]; exact (below_size (by repeat (first | (with_reducible first | exact HB.out | apply below_alloc | apply pw_below_drewN | apply below_drew1 | refine below_set ?_ GE121.out) | exact HB.out))) : w.heap.size ≤ gb124)); have n5_ := Aside0.mk ((by rw [hg]; exact Nat.ne_of_lt (blk_lt (g := gb121) (o := .cells #[.int .i64 x122000_1, .int .i64 x122001_1] 23 (0, 0)) (by (with_reducible repeat (first | refine blk_drewN ?_ _ | refine blk_drew ?_ | refine blk_alloc ?_ _)); exact BK121.out)) : gb121 ≠ gb124)); have n6_ := Aside0.mk ((by rw [hg]; exact Nat.ne_of_gt (blk_lt (g := gb121) (o := .cells #[.int .i64 x122000_1, .int .i64 x122001_1] 23 (0, 0)) (by (with_reducible repeat (first | refine blk_drewN ?_ _ | refine blk_drew ?_ | refine blk_alloc ?_ _)); exact BK121.out)) : gb124 ≠ gb121)); clear BK121; clear HB; have BK121 := n0_; have HB := n1_; have BK124 := n2_; have GW124 := n3_; have GE124 := n4_; have NB121_124 := n5_; have NB124_121 := n6_; clear n0_ n1_ n2_ n3_ n4_ n5_ n6_; clear hb hbox hg; have hnb9 := NB124_121.out; have hnc9 := NB121_124.out; have hcz10_0 : w8.cell? ⟨gb124, 0, none⟩ = some (.int .i64 0) := (blk_cell BK124.out 0).trans rfl; have hcz10_1 : w8.cell? ⟨gb124, 1, none⟩ = some (.int .i64 0) := (blk_cell BK124.out 1).trans rfl; have hcz10_2 : w8.cell? ⟨gb124, 2, none⟩ = some (.bool false) := (blk_cell BK124.out 2).trans rfl; have hfz10_0 := blk_frozen BK124.out 0; have hfz10_1 := blk_frozen BK124.out 1; have hfz10_2 := blk_frozen BK124.out 2) | ((with_reducible refine gate_callee (f := 11) rfl ?_); refine goesL_ (some 127) rfl rfl Try.func11 (by kernel_rfl) rfl #[] rfl (by (try simp only [List.map_toArray, List.map_cons, List.map_nil]); first | done | rfl | (simp only [List.length_drop, List.length_take]; rfl)) ?_; (with_reducible refine (tarrylaw12_alive.calls k1  t125 _ A7.out).mono ?_); rintro e w11 ⟨rfl, hb⟩; refine ⟨_, rfl, ?_⟩; have n0_ := Aside0.mk (blk_below (g := gb121) (o := .cells #[.int .i64 x122000_1, .int .i64 x122001_1] 23 (0, 0)) (by (with_reducible repeat (first | refine blk_drewN ?_ _ | refine blk_drew ?_ | refine blk_alloc ?_ _)); refine blk_far ?_ NB121_124.out _; (with_reducible repeat (first | refine blk_drewN ?_ _ | refine blk_drew ?_ | refine blk_alloc ?_ _)); refine blk_far ?_ NB121_124.out _; (with_reducible repeat (first | refine blk_drewN ?_ _ | refine blk_drew ?_ | refine blk_alloc ?_ _)); refine blk_far ?_ NB121_124.out _; (with_reducible repeat (first | refine blk_drewN ?_ _ | refine blk_drew ?_ | refine blk_alloc ?_ _)); exact BK121.out) hb); have n1_ := Aside0.mk (blk_below (g := gb124) (o := .cells #[.int .i64 ((rd_T36 l0 x19_1).f0), .int .i64 ((rd_T36 l0 x19_1).f1), .bool ((rd_T36 l0 x19_1).f2)] 36 (0, 0)) (by (with_reducible repeat (first | refine blk_drewN ?_ _ | refine blk_drew ?_ | refine blk_alloc ?_ _)); refine blk_put (cs := #[.int .i64 ((rd_T36 l0 x19_1).f0), .int .i64 ((rd_T36 l0 x19_1).f1), .bool false]) ?_ 2 _ rfl; (with_reducible repeat (first | refine blk_drewN ?_ _ | refine blk_drew ?_ | refine blk_alloc ?_ _)); refine blk_put (cs := #[.int .i64 ((rd_T36 l0 x19_1).f0), .int .i64 0, .bool false]) ?_ 1 _ rfl; (with_reducible repeat (first | refine blk_drewN ?_ _ | refine blk_drew ?_ | refine blk_alloc ?_ _)); refine blk_put (cs := #[.int .i64 0, .int .i64 0, .bool false]) ?_ 0 _ rfl; (with_reducible repeat (first | refine blk_drewN ?_ _ | refine blk_drew ?_ | refine blk_alloc ?_ _)); exact BK124.out) hb); have n2_ := Aside0.mk (below_step (by repeat (first | (with_reducible first | exact HB.out | apply below_alloc | apply pw_below_drewN | apply below_drew1 | refine below_set ?_ GE121.out | refine below_set ?_ GE124.out) | exact HB.out)) hb); clear BK121; clear BK124; clear HB; have BK121 := n0_; have BK124 := n1_; have HB := n2_; clear n0_ n1_ n2_; (try clear hb); (try clear hb2); (try clear hk); (try clear hi)))
              go_ret
              exact ⟨by first | rfl | (simp [errW_none, errW_some] <;> rfl) | (simp [*, errW_none, errW_some] <;> rfl), by repeat (first | (with_reducible first | exact HB.out | apply below_alloc | apply pw_below_drewN | apply below_drew1 | refine below_set ?_ GE121.out | refine below_set ?_ GE124.out) | exact HB.out)⟩
            · rw [if_neg c6] at H
              have c6b0 : decide (20 ≤ x19_1) = false := decide_eq_false c6
              clear c6
              have HC12 := Aside0.mk H
              clear H
              have p123 : 0 ≤ (x19_1 : Int) := of_decide_eq_true (by first | (with_reducible assumption) | assumption)
              have q123 : x19_1 < (l0.length : Int) := of_decide_eq_true (by first | (with_reducible assumption) | assumption)
              obtain ⟨ad123, e123, hx123_0, hx123_1, hx123_2⟩ := at_T36 HR0.out x19_1 p123 q123
              cases e123
              replace hx123_0 := (HB.out.cell (World.block_lt_of_cell? w _ hx123_0)).trans hx123_0
              replace hx123_1 := (HB.out.cell (World.block_lt_of_cell? w _ hx123_1)).trans hx123_1
              replace hx123_2 := (HB.out.cell (World.block_lt_of_cell? w _ hx123_2)).trans hx123_2
              replace p123 := eq_true p123
              replace q123 := eq_true q123
              go_upto_block 2 with (first | ((with_reducible refine gate_dst (N := 9) rfl ?_); refine box_event ?hg (N := 9) ?hd (cs := #[.int .i64 0, .int .i64 0, .bool false]) (t := 36) ?hr ?_; (case hd => rfl); (case hg => rfl); (case hr => first | (go_simp; done) | (go_simp; rfl)); intro gb124 hg w13 hbox hb; have n0_ := Aside0.mk (blk_below (g := gb121) (o := .cells #[.int .i64 x122000_1, .int .i64 x122001_1] 23 (0, 0)) (by (with_reducible repeat (first | refine blk_drewN ?_ _ | refine blk_drew ?_ | refine blk_alloc ?_ _)); exact BK121.out) hb); have n1_ := Aside0.mk (below_step (by repeat (first | (with_reducible first | exact HB.out | apply below_alloc | apply pw_below_drewN | apply below_drew1 | refine below_set ?_ GE121.out) | exact HB.out)) hb); have n2_ := Aside0.mk (hbox); have n3_ := Aside0.mk ((by rw [hg]; exact (below_size (by repeat (first | (with_reducible first | exact HB.out | apply below_alloc | apply pw_below_drewN | apply below_drew1 | refine below_set ?_ GE121.out) | exact HB.out))) : w.heap.size ≤ gb124)); have n4_ := Aside0.mk ((by rw [hg]; exact (below_size (by repeat (first | (with_reducible first | exact HB.out | apply below_alloc | apply pw_below_drewN | apply below_drew1 | refine below_set ?_ GE121.out) | exact HB.out))) : w.heap.size ≤ gb124)); have n5_ := Aside0.mk ((by rw [hg]; exact Nat.ne_of_lt (blk_lt (g := gb121) (o := .cells #[.int .i64 x122000_1, .int .i64 x122001_1] 23 (0, 0)) (by (with_reducible repeat (first | refine blk_drewN ?_ _ | refine blk_drew ?_ | refine blk_alloc ?_ _)); exact BK121.out)) : gb121 ≠ gb124)); have n6_ := Aside0.mk ((by rw [hg]; exact Nat.ne_of_gt (blk_lt (g := gb121) (o := .cells #[.int .i64 x122000_1, .int .i64 x122001_1] 23 (0, 0)) (by (with_reducible repeat (first | refine blk_drewN ?_ _ | refine blk_drew ?_ | refine blk_alloc ?_ _)); exact BK121.out)) : gb124 ≠ gb121)); clear BK121; clear HB; have BK121 := n0_; have HB := n1_; have BK124 := n2_; have GW124 := n3_; have GE124 := n4_; have NB121_124 := n5_; have NB124_121 := n6_; clear n0_ n1_ n2_ n3_ n4_ n5_ n6_; clear hb hbox hg; have hnb14 := NB124_121.out; have hnc14 := NB121_124.out; have hcz15_0 : w13.cell? ⟨gb124, 0, none⟩ = some (.int .i64 0) := (blk_cell BK124.out 0).trans rfl; have hcz15_1 : w13.cell? ⟨gb124, 1, none⟩ = some (.int .i64 0) := (blk_cell BK124.out 1).trans rfl; have hcz15_2 : w13.cell? ⟨gb124, 2, none⟩ = some (.bool false) := (blk_cell BK124.out 2).trans rfl; have hfz15_0 := blk_frozen BK124.out 0; have hfz15_1 := blk_frozen BK124.out 1; have hfz15_2 := blk_frozen BK124.out 2))
              (try simp only [Act.put, List.setIfInBounds_toArray, List.set_cons_zero, List.set_cons_succ])
              go_cut [5, 6, 7] (fun v5 v6 v7 wc => ∃ (kq : Nat) (x5_11 : Int) (x6_11 : Int) (x7_11 : Int) (x122000_11 : Int) (x122001_11 : Int), v5 = .int .i64 x5_11 ∧ v6 = .int .i64 x6_11 ∧ v7 = .int .i64 x7_11 ∧ Aside0 (tarrylaw12_AskOnce.j1 kq (wrap64 (x4_1 + (Int.tmod (wrap64 ((Int.tmod ((rd_T36 l0 x19_1).f1) 20) + 20)) 20))) x5_11 x6_11 x7_11 l0 (l0.length : Int) x19_1 x122000_11 x122001_11 = some r) ∧ Aside0 (kq ≤ k1) ∧ Aside0 (wc.heap[gb121]? = some (.cells #[.int .i64 x122000_11, .int .i64 x122001_11] 23 (0, 0))) ∧ Aside0 (wc.heap[gb124]? = some (.cells #[.int .i64 ((rd_T36 l0 x19_1).f0), .int .i64 ((rd_T36 l0 x19_1).f1), .bool ((rd_T36 l0 x19_1).f2)] 36 (0, 0))) ∧ Aside0 (Below w.heap.size w wc))
              case first =>
                have H := HC12.out
                clear HC12
                by_cases c16 : (Int.tmod (wrap64 ((Int.tmod ((rd_T36 l0 x19_1).f0) 3) + 3)) 3) = 0
                · rw [if_pos c16] at H
                  have c16b0 : ((Int.tmod (wrap64 ((Int.tmod ((rd_T36 l0 x19_1).f0) 3) + 3)) 3) == 0) = true := beq_iff_eq.mpr c16
                  have c16b1 : ((Int.tmod (wrap64 ((Int.tmod ((rd_T36 l0 x19_1).f0) 3) + 3)) 3) != 0) = false := bne_eq_false_iff_eq.mpr c16
                  clear c16
                  (first | rw [c16b0] | (simp only [i64_w, i32_w]; rw [c16b0]) | skip)
                  replace H := Option.bind_eq_some_iff.mp H
                  obtain ⟨⟨t126, t127, t128⟩, A170, H⟩ := H
                  replace H : (if t128 = 0 then (tarrylaw12_AskOnce.j1 k1 (wrap64 (x4_1 + (Int.tmod (wrap64 ((Int.tmod ((rd_T36 l0 x19_1).f1) 20) + 20)) 20))) (wrap64 (x5_1 + 1)) x6_1 (wrap64 ((wrap64 (x4_1 + (Int.tmod (wrap64 ((Int.tmod ((rd_T36 l0 x19_1).f1) 20) + 20)) 20))) + 10)) l0 (l0.length : Int) x19_1 t126 t127) else (tarrylaw12_AskOnce.j1 k1 (wrap64 (x4_1 + (Int.tmod (wrap64 ((Int.tmod ((rd_T36 l0 x19_1).f1) 20) + 20)) 20))) x5_1 x6_1 x7_1 l0 (l0.length : Int) x19_1 x122000_1 x122001_1)) = some r := H
                  have A17 := Aside0.mk A170
                  clear A170
                  by_cases c18 : t128 = 0
                  · rw [if_pos c18] at H
                    have c18b0 : (t128 == 0) = true := beq_iff_eq.mpr c18
                    have c18b1 : (t128 != 0) = false := bne_eq_false_iff_eq.mpr c18
                    clear c18
                    have H' := Aside0.mk H
                    clear H
                    have hnb19 := NB121_124.out
                    have hnc19 := NB124_121.out
                    have hcz20_0 : w13.cell? ⟨gb121, 0, none⟩ = some (.int .i64 x122000_1) := (blk_cell BK121.out 0).trans rfl
                    have hcz20_1 : w13.cell? ⟨gb121, 1, none⟩ = some (.int .i64 x122001_1) := (blk_cell BK121.out 1).trans rfl
                    have hfz20_0 := blk_frozen BK121.out 0
                    have hfz20_1 := blk_frozen BK121.out 1
                    go_wp2_with (first | ((with_reducible refine gate_callee (f := 5) rfl ?_); refine goesL_ (some 54) rfl rfl Try.func5 (by kernel_rfl) rfl #[.agg #[.int .i64 x122000_1, .int .i64 x122001_1], .int .i64 (wrap64 ((wrap64 (x4_1 + (Int.tmod (wrap64 ((Int.tmod ((rd_T36 l0 x19_1).f1) 20) + 20)) 20))) + 10))] rfl (by (try simp only [List.map_toArray, List.map_cons, List.map_nil]); first | done | rfl | (simp only [List.length_drop, List.length_take]; rfl)) ?_; (with_reducible refine (ask_Begin.calls k1 x122000_1 x122001_1 (wrap64 ((wrap64 (x4_1 + (Int.tmod (wrap64 ((Int.tmod ((rd_T36 l0 x19_1).f1) 20) + 20)) 20))) + 10)) t126 t127 t128 _ A17.out).mono ?_); rintro e w21 ⟨rfl, hb⟩; refine ⟨_, rfl, ?_⟩; have n0_ := Aside0.mk (blk_below (g := gb121) (o := .cells #[.int .i64 x122000_1, .int .i64 x122001_1] 23 (0, 0)) (by (with_reducible repeat (first | refine blk_drewN ?_ _ | refine blk_drew ?_ | refine blk_alloc ?_ _)); refine blk_far ?_ NB121_124.out _; (with_reducible repeat (first | refine blk_drewN ?_ _ | refine blk_drew ?_ | refine blk_alloc ?_ _)); refine blk_far ?_ NB121_124.out _; (with_reducible repeat (first | refine blk_drewN ?_ _ | refine blk_drew ?_ | refine blk_alloc ?_ _)); refine blk_far ?_ NB121_124.out _; (with_reducible repeat (first | refine blk_drewN ?_ _ | refine blk_drew ?_ | refine blk_alloc ?_ _)); exact BK121.out) hb); have n1_ := Aside0.mk (blk_below (g := gb124) (o := .cells #[.int .i64 ((rd_T36 l0 x19_1).f0), .int .i64 ((rd_T36 l0 x19_1).f1), .bool ((rd_T36 l0 x19_1).f2)] 36 (0, 0)) (by (with_reducible repeat (first | refine blk_drewN ?_ _ | refine blk_drew ?_ | refine blk_alloc ?_ _)); refine blk_put (cs := #[.int .i64 ((rd_T36 l0 x19_1).f0), .int .i64 ((rd_T36 l0 x19_1).f1), .bool false]) ?_ 2 _ rfl; (with_reducible repeat (first | refine blk_drewN ?_ _ | refine blk_drew ?_ | refine blk_alloc ?_ _)); refine blk_put (cs := #[.int .i64 ((rd_T36 l0 x19_1).f0), .int .i64 0, .bool false]) ?_ 1 _ rfl; (with_reducible repeat (first | refine blk_drewN ?_ _ | refine blk_drew ?_ | refine blk_alloc ?_ _)); refine blk_put (cs := #[.int .i64 0, .int .i64 0, .bool false]) ?_ 0 _ rfl; (with_reducible repeat (first | refine blk_drewN ?_ _ | refine blk_drew ?_ | refine blk_alloc ?_ _)); exact BK124.out) hb); have n2_ := Aside0.mk (below_step (by repeat (first | (with_reducible first | exact HB.out | apply below_alloc | apply pw_below_drewN | apply below_drew1 | refine below_set ?_ GE121.out | refine below_set ?_ GE124.out) | exact HB.out)) hb); clear BK121; clear BK124; clear HB; have BK121 := n0_; have BK124 := n1_; have HB := n2_; clear n0_ n1_ n2_; (try clear hb); (try clear hb2); (try clear hk); (try clear hi)) | ((with_reducible refine gate_dst (N := 10) rfl ?_); refine box_event ?hg (N := 10) ?hd (cs := #[.int .i64 0, .int .i64 0]) (t := 23) ?hr ?_; (case hd => rfl); (case hg => rfl); (case hr => first | (go_simp; done) | (go_simp; rfl)); intro gb129 hg w22 hbox hb; have n0_ := Aside0.mk (blk_below (g := gb121) (o := .cells #[.int .i64 x122000_1, .int .i64 x122001_1] 23 (0, 0)) (by (with_reducible repeat (first | refine blk_drewN ?_ _ | refine blk_drew ?_ | refine blk_alloc ?_ _)); exact BK121.out) hb); have n1_ := Aside0.mk (blk_below (g := gb124) (o := .cells #[.int .i64 ((rd_T36 l0 x19_1).f0), .int .i64 ((rd_T36 l0 x19_1).f1), .bool ((rd_T36 l0 x19_1).f2)] 36 (0, 0)) (by (with_reducible repeat (first | refine blk_drewN ?_ _ | refine blk_drew ?_ | refine blk_alloc ?_ _)); exact BK124.out) hb); have n2_ := Aside0.mk (below_step (by repeat (first | (with_reducible first | exact HB.out | apply below_alloc | apply pw_below_drewN | apply below_drew1 | refine below_set ?_ GE121.out | refine below_set ?_ GE124.out) | exact HB.out)) hb); have n3_ := Aside0.mk (hbox); have n4_ := Aside0.mk ((by rw [hg]; exact (below_size (by repeat (first | (with_reducible first | exact HB.out | apply below_alloc | apply pw_below_drewN | apply below_drew1 | refine below_set ?_ GE121.out | refine below_set ?_ GE124.out) | exact HB.out))) : w.heap.size ≤ gb129)); have n5_ := Aside0.mk ((by rw [hg]; exact (below_size (by repeat (first | (with_reducible first | exact HB.out | apply below_alloc | apply pw_below_drewN | apply below_drew1 | refine below_set ?_ GE121.out | refine below_set ?_ GE124.out) | exact HB.out))) : w.heap.size ≤ gb129)); have n6_ := Aside0.mk ((by rw [hg]; exact Nat.ne_of_lt (blk_lt (g := gb121) (o := .cells #[.int .i64 x122000_1, .int .i64 x122001_1] 23 (0, 0)) (by (with_reducible repeat (first | refine blk_drewN ?_ _ | refine blk_drew ?_ | refine blk_alloc ?_ _)); exact BK121.out)) : gb121 ≠ gb129)); have n7_ := Aside0.mk ((by rw [hg]; exact Nat.ne_of_gt (blk_lt (g := gb121) (o := .cells #[.int .i64 x122000_1, .int .i64 x122001_1] 23 (0, 0)) (by (with_reducible repeat (first | refine blk_drewN ?_ _ | refine blk_drew ?_ | refine blk_alloc ?_ _)); exact BK121.out)) : gb129 ≠ gb121)); have n8_ := Aside0.mk ((by rw [hg]; exact Nat.ne_of_lt (blk_lt (g := gb124) (o := .cells #[.int .i64 ((rd_T36 l0 x19_1).f0), .int .i64 ((rd_T36 l0 x19_1).f1), .bool ((rd_T36 l0 x19_1).f2)] 36 (0, 0)) (by (with_reducible repeat (first | refine blk_drewN ?_ _ | refine blk_drew ?_ | refine blk_alloc ?_ _)); exact BK124.out)) : gb124 ≠ gb129)); have n9_ := Aside0.mk ((by rw [hg]; exact Nat.ne_of_gt (blk_lt (g := gb124) (o := .cells #[.int .i64 ((rd_T36 l0 x19_1).f0), .int .i64 ((rd_T36 l0 x19_1).f1), .bool ((rd_T36 l0 x19_1).f2)] 36 (0, 0)) (by (with_reducible repeat (first | refine blk_drewN ?_ _ | refine blk_drew ?_ | refine blk_alloc ?_ _)); exact BK124.out)) : gb129 ≠ gb124)); clear BK121; clear BK124; clear HB; have BK121 := n0_; have BK124 := n1_; have HB := n2_; have BK129 := n3_; have GW129 := n4_; have GE129 := n5_; have NB121_129 := n6_; have NB129_121 := n7_; have NB124_129 := n8_; have NB129_124 := n9_; clear n0_ n1_ n2_ n3_ n4_ n5_ n6_ n7_ n8_ n9_; clear hb hbox hg; have hnb23 := NB129_121.out; have hnc23 := NB121_129.out; have hnb24 := NB129_124.out; have hnc24 := NB124_129.out; have hcz25_0 : w22.cell? ⟨gb129, 0, none⟩ = some (.int .i64 0) := (blk_cell BK129.out 0).trans rfl; have hcz25_1 : w22.cell? ⟨gb129, 1, none⟩ = some (.int .i64 0) := (blk_cell BK129.out 1).trans rfl; have hfz25_0 := blk_frozen BK129.out 0; have hfz25_1 := blk_frozen BK129.out 1; have hcz26_0 : w22.cell? ⟨gb121, 0, none⟩ = some (.int .i64 x122000_1) := (blk_cell BK121.out 0).trans rfl; have hcz26_1 : w22.cell? ⟨gb121, 1, none⟩ = some (.int .i64 x122001_1) := (blk_cell BK121.out 1).trans rfl; have hfz26_0 := blk_frozen BK121.out 0; have hfz26_1 := blk_frozen BK121.out 1))
                    go_meet
                    case rel => exact ⟨_, (wrap64 (x5_1 + 1)), (x6_1), (wrap64 ((wrap64 (x4_1 + (Int.tmod (wrap64 ((Int.tmod ((rd_T36 l0 x19_1).f1) 20) + 20)) 20))) + 10)), (t126), (t127), (by first | rfl | (simp; done) | (simp [*]; done)), (by first | rfl | (simp; done) | (simp [*]; done)), (by first | rfl | (simp; done) | (simp [*]; done)), H', ⟨by have := HK1.out; first | omega | exact Nat.le_refl _⟩, ⟨by (with_reducible repeat (first | refine blk_drewN ?_ _ | refine blk_drew ?_ | refine blk_alloc ?_ _)); refine blk_put (cs := #[.int .i64 t126, .int .i64 x122001_1]) ?_ 1 _ rfl; (with_reducible repeat (first | refine blk_drewN ?_ _ | refine blk_drew ?_ | refine blk_alloc ?_ _)); refine blk_put (cs := #[.int .i64 x122000_1, .int .i64 x122001_1]) ?_ 0 _ rfl; (with_reducible repeat (first | refine blk_drewN ?_ _ | refine blk_drew ?_ | refine blk_alloc ?_ _)); refine blk_far ?_ NB121_129.out _; (with_reducible repeat (first | refine blk_drewN ?_ _ | refine blk_drew ?_ | refine blk_alloc ?_ _)); refine blk_far ?_ NB121_129.out _; (with_reducible repeat (first | refine blk_drewN ?_ _ | refine blk_drew ?_ | refine blk_alloc ?_ _)); exact BK121.out⟩, ⟨by (with_reducible repeat (first | refine blk_drewN ?_ _ | refine blk_drew ?_ | refine blk_alloc ?_ _)); refine blk_far ?_ NB124_121.out _; (with_reducible repeat (first | refine blk_drewN ?_ _ | refine blk_drew ?_ | refine blk_alloc ?_ _)); refine blk_far ?_ NB124_121.out _; (with_reducible repeat (first | refine blk_drewN ?_ _ | refine blk_drew ?_ | refine blk_alloc ?_ _)); refine blk_far ?_ NB124_129.out _; (with_reducible repeat (first | refine blk_drewN ?_ _ | refine blk_drew ?_ | refine blk_alloc ?_ _)); refine blk_far ?_ NB124_129.out _; (with_reducible repeat (first | refine blk_drewN ?_ _ | refine blk_drew ?_ | refine blk_alloc ?_ _)); exact BK124.out⟩, ⟨by repeat (first | (with_reducible first | exact HB.out | apply below_alloc | apply pw_below_drewN | apply below_drew1 | refine below_set ?_ GE121.out | refine below_set ?_ GE124.out | refine below_set ?_ GE129.out) | exact HB.out)⟩⟩
                  · rw [if_neg c18] at H
                    have c18b0 : (t128 == 0) = false := beq_eq_false_iff_ne.mpr c18
                    have c18b1 : (t128 != 0) = true := bne_iff_ne.mpr c18
                    have H' := Aside0.mk H
                    clear H
                    have hnb27 := NB121_124.out
                    have hnc27 := NB124_121.out
                    have hcz28_0 : w13.cell? ⟨gb121, 0, none⟩ = some (.int .i64 x122000_1) := (blk_cell BK121.out 0).trans rfl
                    have hcz28_1 : w13.cell? ⟨gb121, 1, none⟩ = some (.int .i64 x122001_1) := (blk_cell BK121.out 1).trans rfl
                    have hfz28_0 := blk_frozen BK121.out 0
                    have hfz28_1 := blk_frozen BK121.out 1
                    go_wp2_with (first | ((with_reducible refine gate_callee (f := 5) rfl ?_); refine goesL_ (some 54) rfl rfl Try.func5 (by kernel_rfl) rfl #[.agg #[.int .i64 x122000_1, .int .i64 x122001_1], .int .i64 (wrap64 ((wrap64 (x4_1 + (Int.tmod (wrap64 ((Int.tmod ((rd_T36 l0 x19_1).f1) 20) + 20)) 20))) + 10))] rfl (by (try simp only [List.map_toArray, List.map_cons, List.map_nil]); first | done | rfl | (simp only [List.length_drop, List.length_take]; rfl)) ?_; (with_reducible refine (ask_Begin.calls k1 x122000_1 x122001_1 (wrap64 ((wrap64 (x4_1 + (Int.tmod (wrap64 ((Int.tmod ((rd_T36 l0 x19_1).f1) 20) + 20)) 20))) + 10)) t126 t127 t128 _ A17.out).mono ?_); rintro e w29 ⟨rfl, hb⟩; refine ⟨_, rfl, ?_⟩; have n0_ := Aside0.mk (blk_below (g := gb121) (o := .cells #[.int .i64 x122000_1, .int .i64 x122001_1] 23 (0, 0)) (by (with_reducible repeat (first | refine blk_drewN ?_ _ | refine blk_drew ?_ | refine blk_alloc ?_ _)); refine blk_far ?_ NB121_124.out _; (with_reducible repeat (first | refine blk_drewN ?_ _ | refine blk_drew ?_ | refine blk_alloc ?_ _)); refine blk_far ?_ NB121_124.out _; (with_reducible repeat (first | refine blk_drewN ?_ _ | refine blk_drew ?_ | refine blk_alloc ?_ _)); refine blk_far ?_ NB121_124.out _; (with_reducible repeat (first | refine blk_drewN ?_ _ | refine blk_drew ?_ | refine blk_alloc ?_ _)); exact BK121.out) hb); have n1_ := Aside0.mk (blk_below (g := gb124) (o := .cells #[.int .i64 ((rd_T36 l0 x19_1).f0), .int .i64 ((rd_T36 l0 x19_1).f1), .bool ((rd_T36 l0 x19_1).f2)] 36 (0, 0)) (by (with_reducible repeat (first | refine blk_drewN ?_ _ | refine blk_drew ?_ | refine blk_alloc ?_ _)); refine blk_put (cs := #[.int .i64 ((rd_T36 l0 x19_1).f0), .int .i64 ((rd_T36 l0 x19_1).f1), .bool false]) ?_ 2 _ rfl; (with_reducible repeat (first | refine blk_drewN ?_ _ | refine blk_drew ?_ | refine blk_alloc ?_ _)); refine blk_put (cs := #[.int .i64 ((rd_T36 l0 x19_1).f0), .int .i64 0, .bool false]) ?_ 1 _ rfl; (with_reducible repeat (first | refine blk_drewN ?_ _ | refine blk_drew ?_ | refine blk_alloc ?_ _)); refine blk_put (cs := #[.int .i64 0, .int .i64 0, .bool false]) ?_ 0 _ rfl; (with_reducible repeat (first | refine blk_drewN ?_ _ | refine blk_drew ?_ | refine blk_alloc ?_ _)); exact BK124.out) hb); have n2_ := Aside0.mk (below_step (by repeat (first | (with_reducible first | exact HB.out | apply below_alloc | apply pw_below_drewN | apply below_drew1 | refine below_set ?_ GE121.out | refine below_set ?_ GE124.out) | exact HB.out)) hb); clear BK121; clear BK124; clear HB; have BK121 := n0_; have BK124 := n1_; have HB := n2_; clear n0_ n1_ n2_; (try clear hb); (try clear hb2); (try clear hk); (try clear hi)) | ((with_reducible refine gate_dst (N := 10) rfl ?_); refine box_event ?hg (N := 10) ?hd (cs := #[.int .i64 0, .int .i64 0]) (t := 23) ?hr ?_; (case hd => rfl); (case hg => rfl); (case hr => first | (go_simp; done) | (go_simp; rfl)); intro gb129 hg w30 hbox hb; have n0_ := Aside0.mk (blk_below (g := gb121) (o := .cells #[.int .i64 x122000_1, .int .i64 x122001_1] 23 (0, 0)) (by (with_reducible repeat (first | refine blk_drewN ?_ _ | refine blk_drew ?_ | refine blk_alloc ?_ _)); exact BK121.out) hb); have n1_ := Aside0.mk (blk_below (g := gb124) (o := .cells #[.int .i64 ((rd_T36 l0 x19_1).f0), .int .i64 ((rd_T36 l0 x19_1).f1), .bool ((rd_T36 l0 x19_1).f2)] 36 (0, 0)) (by (with_reducible repeat (first | refine blk_drewN ?_ _ | refine blk_drew ?_ | refine blk_alloc ?_ _)); exact BK124.out) hb); have n2_ := Aside0.mk (below_step (by repeat (first | (with_reducible first | exact HB.out | apply below_alloc | apply pw_below_drewN | apply below_drew1 | refine below_set ?_ GE121.out | refine below_set ?_ GE124.out) | exact HB.out)) hb); have n3_ := Aside0.mk (hbox); have n4_ := Aside0.mk ((by rw [hg]; exact (below_size (by repeat (first | (with_reducible first | exact HB.out | apply below_alloc | apply pw_below_drewN | apply below_drew1 | refine below_set ?_ GE121.out | refine below_set ?_ GE124.out) | exact HB.out))) : w.heap.size ≤ gb129)); have n5_ := Aside0.mk ((by rw [hg]; exact (below_size (by repeat (first | (with_reducible first | exact HB.out | apply below_alloc | apply pw_below_drewN | apply below_drew1 | refine below_set ?_ GE121.out | refine below_set ?_ GE124.out) | exact HB.out))) : w.heap.size ≤ gb129)); have n6_ := Aside0.mk ((by rw [hg]; exact Nat.ne_of_lt (blk_lt (g := gb121) (o := .cells #[.int .i64 x122000_1, .int .i64 x122001_1] 23 (0, 0)) (by (with_reducible repeat (first | refine blk_drewN ?_ _ | refine blk_drew ?_ | refine blk_alloc ?_ _)); exact BK121.out)) : gb121 ≠ gb129)); have n7_ := Aside0.mk ((by rw [hg]; exact Nat.ne_of_gt (blk_lt (g := gb121) (o := .cells #[.int .i64 x122000_1, .int .i64 x122001_1] 23 (0, 0)) (by (with_reducible repeat (first | refine blk_drewN ?_ _ | refine blk_drew ?_ | refine blk_alloc ?_ _)); exact BK121.out)) : gb129 ≠ gb121)); have n8_ := Aside0.mk ((by rw [hg]; exact Nat.ne_of_lt (blk_lt (g := gb124) (o := .cells #[.int .i64 ((rd_T36 l0 x19_1).f0), .int .i64 ((rd_T36 l0 x19_1).f1), .bool ((rd_T36 l0 x19_1).f2)] 36 (0, 0)) (by (with_reducible repeat (first | refine blk_drewN ?_ _ | refine blk_drew ?_ | refine blk_alloc ?_ _)); exact BK124.out)) : gb124 ≠ gb129)); have n9_ := Aside0.mk ((by rw [hg]; exact Nat.ne_of_gt (blk_lt (g := gb124) (o := .cells #[.int .i64 ((rd_T36 l0 x19_1).f0), .int .i64 ((rd_T36 l0 x19_1).f1), .bool ((rd_T36 l0 x19_1).f2)] 36 (0, 0)) (by (with_reducible repeat (first | refine blk_drewN ?_ _ | refine blk_drew ?_ | refine blk_alloc ?_ _)); exact BK124.out)) : gb129 ≠ gb124)); clear BK121; clear BK124; clear HB; have BK121 := n0_; have BK124 := n1_; have HB := n2_; have BK129 := n3_; have GW129 := n4_; have GE129 := n5_; have NB121_129 := n6_; have NB129_121 := n7_; have NB124_129 := n8_; have NB129_124 := n9_; clear n0_ n1_ n2_ n3_ n4_ n5_ n6_ n7_ n8_ n9_; clear hb hbox hg; have hnb31 := NB129_121.out; have hnc31 := NB121_129.out; have hnb32 := NB129_124.out; have hnc32 := NB124_129.out; have hcz33_0 : w30.cell? ⟨gb129, 0, none⟩ = some (.int .i64 0) := (blk_cell BK129.out 0).trans rfl; have hcz33_1 : w30.cell? ⟨gb129, 1, none⟩ = some (.int .i64 0) := (blk_cell BK129.out 1).trans rfl; have hfz33_0 := blk_frozen BK129.out 0; have hfz33_1 := blk_frozen BK129.out 1))
                    go_meet
                    case rel => exact ⟨_, (x5_1), (x6_1), (x7_1), (x122000_1), (x122001_1), (by first | rfl | (simp; done) | (simp [*]; done)), (by first | rfl | (simp; done) | (simp [*]; done)), (by first | rfl | (simp; done) | (simp [*]; done)), H', ⟨by have := HK1.out; first | omega | exact Nat.le_refl _⟩, ⟨by (with_reducible repeat (first | refine blk_drewN ?_ _ | refine blk_drew ?_ | refine blk_alloc ?_ _)); refine blk_far ?_ NB121_129.out _; (with_reducible repeat (first | refine blk_drewN ?_ _ | refine blk_drew ?_ | refine blk_alloc ?_ _)); refine blk_far ?_ NB121_129.out _; (with_reducible repeat (first | refine blk_drewN ?_ _ | refine blk_drew ?_ | refine blk_alloc ?_ _)); exact BK121.out⟩, ⟨by (with_reducible repeat (first | refine blk_drewN ?_ _ | refine blk_drew ?_ | refine blk_alloc ?_ _)); refine blk_far ?_ NB124_129.out _; (with_reducible repeat (first | refine blk_drewN ?_ _ | refine blk_drew ?_ | refine blk_alloc ?_ _)); refine blk_far ?_ NB124_129.out _; (with_reducible repeat (first | refine blk_drewN ?_ _ | refine blk_drew ?_ | refine blk_alloc ?_ _)); exact BK124.out⟩, ⟨by repeat (first | (with_reducible first | exact HB.out | apply below_alloc | apply pw_below_drewN | apply below_drew1 | refine below_set ?_ GE121.out | refine below_set ?_ GE124.out | refine below_set ?_ GE129.out) | exact HB.out)⟩⟩
                · rw [if_neg c16] at H
                  have c16b0 : ((Int.tmod (wrap64 ((Int.tmod ((rd_T36 l0 x19_1).f0) 3) + 3)) 3) == 0) = false := beq_eq_false_iff_ne.mpr c16
                  have c16b1 : ((Int.tmod (wrap64 ((Int.tmod ((rd_T36 l0 x19_1).f0) 3) + 3)) 3) != 0) = true := bne_iff_ne.mpr c16
                  (first | rw [c16b0] | (simp only [i64_w, i32_w]; rw [c16b0]) | skip)
                  by_cases c34 : (Int.tmod (wrap64 ((Int.tmod ((rd_T36 l0 x19_1).f0) 3) + 3)) 3) = 1
                  · rw [if_pos c34] at H
                    have c34b0 : ((Int.tmod (wrap64 ((Int.tmod ((rd_T36 l0 x19_1).f0) 3) + 3)) 3) == 1) = true := beq_iff_eq.mpr c34
                    have c34b1 : ((Int.tmod (wrap64 ((Int.tmod ((rd_T36 l0 x19_1).f0) 3) + 3)) 3) != 1) = false := bne_eq_false_iff_eq.mpr c34
                    clear c34
                    replace H := Option.bind_eq_some_iff.mp H
                    obtain ⟨⟨t130, t131, t132⟩, A350, H⟩ := H
                    replace H : (if t132 = 0 then (if (rd_T36 l0 x19_1).f2 = true then (if x5_1 = 1 then (if (wrap64 (x4_1 + (Int.tmod (wrap64 ((Int.tmod ((rd_T36 l0 x19_1).f1) 20) + 20)) 20))) ≥ x7_1 then (some false) else (tarrylaw12_AskOnce.j1 k1 (wrap64 (x4_1 + (Int.tmod (wrap64 ((Int.tmod ((rd_T36 l0 x19_1).f1) 20) + 20)) 20))) x5_1 (wrap64 (x6_1 + 1)) x7_1 l0 (l0.length : Int) x19_1 t130 t131)) else (some false)) else (if x5_1 = 1 then (if (wrap64 (x4_1 + (Int.tmod (wrap64 ((Int.tmod ((rd_T36 l0 x19_1).f1) 20) + 20)) 20))) ≥ x7_1 then (some false) else (tarrylaw12_AskOnce.j1 k1 (wrap64 (x4_1 + (Int.tmod (wrap64 ((Int.tmod ((rd_T36 l0 x19_1).f1) 20) + 20)) 20))) x5_1 x6_1 x7_1 l0 (l0.length : Int) x19_1 t130 t131)) else (some false))) else (tarrylaw12_AskOnce.j1 k1 (wrap64 (x4_1 + (Int.tmod (wrap64 ((Int.tmod ((rd_T36 l0 x19_1).f1) 20) + 20)) 20))) x5_1 x6_1 x7_1 l0 (l0.length : Int) x19_1 x122000_1 x122001_1)) = some r := H
                    have A35 := Aside0.mk A350
                    clear A350
                    by_cases c36 : t132 = 0
                    · rw [if_pos c36] at H
                      have c36b0 : (t132 == 0) = true := beq_iff_eq.mpr c36
                      have c36b1 : (t132 != 0) = false := bne_eq_false_iff_eq.mpr c36
                      clear c36
                      obtain ⟨bq37, hbq37⟩ : ∃ b_ : Bool, b_ = ((rd_T36 l0 x19_1).f2) := ⟨_, rfl⟩
                      replace H : (if bq37 = true then (if x5_1 = 1 then (if (wrap64 (x4_1 + (Int.tmod (wrap64 ((Int.tmod ((rd_T36 l0 x19_1).f1) 20) + 20)) 20))) ≥ x7_1 then (some false) else (tarrylaw12_AskOnce.j1 k1 (wrap64 (x4_1 + (Int.tmod (wrap64 ((Int.tmod ((rd_T36 l0 x19_1).f1) 20) + 20)) 20))) x5_1 (wrap64 (x6_1 + 1)) x7_1 l0 (l0.length : Int) x19_1 t130 t131)) else (some false)) else (if x5_1 = 1 then (if (wrap64 (x4_1 + (Int.tmod (wrap64 ((Int.tmod ((rd_T36 l0 x19_1).f1) 20) + 20)) 20))) ≥ x7_1 then (some false) else (tarrylaw12_AskOnce.j1 k1 (wrap64 (x4_1 + (Int.tmod (wrap64 ((Int.tmod ((rd_T36 l0 x19_1).f1) 20) + 20)) 20))) x5_1 x6_1 x7_1 l0 (l0.length : Int) x19_1 t130 t131)) else (some false))) = some r := by rw [← hbq37] at H; exact H
                      have Nbq37 := Aside0.mk hbq37
                      clear hbq37
                      by_cases c38 : bq37 = true
                      · subst c38
                        try have hbq37 := Nbq37.out.symm
                        try simp only [hbq37] at A7
                        try simp only [hbq37] at A17
                        try simp only [hbq37] at A35
                        have H1 : (if x5_1 = 1 then (if (wrap64 (x4_1 + (Int.tmod (wrap64 ((Int.tmod ((rd_T36 l0 x19_1).f1) 20) + 20)) 20))) ≥ x7_1 then (some false) else (tarrylaw12_AskOnce.j1 k1 (wrap64 (x4_1 + (Int.tmod (wrap64 ((Int.tmod ((rd_T36 l0 x19_1).f1) 20) + 20)) 20))) x5_1 (wrap64 (x6_1 + 1)) x7_1 l0 (l0.length : Int) x19_1 t130 t131)) else (some false)) = some r := by rw [if_pos rfl] at H; exact H
                        clear H
                        have H := H1
                        clear H1
                        by_cases c39 : x5_1 = 1
                        · rw [if_pos c39] at H
                          have c39b0 : (x5_1 == 1) = true := beq_iff_eq.mpr c39
                          have c39b1 : (x5_1 != 1) = false := bne_eq_false_iff_eq.mpr c39
                          clear c39
                          by_cases c40 : (wrap64 (x4_1 + (Int.tmod (wrap64 ((Int.tmod ((rd_T36 l0 x19_1).f1) 20) + 20)) 20))) ≥ x7_1
                          · rw [if_pos c40] at H
                            have c40b0 : decide (x7_1 ≤ (wrap64 (x4_1 + (Int.tmod (wrap64 ((Int.tmod ((rd_T36 l0 x19_1).f1) 20) + 20)) 20)))) = true := decide_eq_true c40
                            clear c40
                            obtain rfl := Option.some.inj H
                            have hnb41 := NB121_124.out
                            have hnc41 := NB124_121.out
                            have hcz42_0 : w13.cell? ⟨gb121, 0, none⟩ = some (.int .i64 x122000_1) := (blk_cell BK121.out 0).trans rfl
                            have hcz42_1 : w13.cell? ⟨gb121, 1, none⟩ = some (.int .i64 x122001_1) := (blk_cell BK121.out 1).trans rfl
                            have hfz42_0 := blk_frozen BK121.out 0
                            have hfz42_1 := blk_frozen BK121.out 1
                            have hcz43_0 : w13.cell? ⟨gb124, 0, none⟩ = some (.int .i64 0) := (blk_cell BK124.out 0).trans rfl
                            have hcz43_1 : w13.cell? ⟨gb124, 1, none⟩ = some (.int .i64 0) := (blk_cell BK124.out 1).trans rfl
                            have hcz43_2 : w13.cell? ⟨gb124, 2, none⟩ = some (.bool false) := (blk_cell BK124.out 2).trans rfl
                            have hfz43_0 := blk_frozen BK124.out 0
                            have hfz43_1 := blk_frozen BK124.out 1
                            have hfz43_2 := blk_frozen BK124.out 2
                            go_wp2_with (first | ((with_reducible refine gate_callee (f := 6) rfl ?_); refine goesL_ (some 71) rfl rfl Try.func6 (by kernel_rfl) rfl #[.agg #[.int .i64 x122000_1, .int .i64 x122001_1], .bool true, .int .i64 (wrap64 (x4_1 + (Int.tmod (wrap64 ((Int.tmod ((rd_T36 l0 x19_1).f1) 20) + 20)) 20)))] rfl (by (try simp only [List.map_toArray, List.map_cons, List.map_nil]); first | done | rfl | (simp only [List.length_drop, List.length_take]; rfl)) ?_; (with_reducible refine (ask_Answer.calls x122000_1 x122001_1 true (wrap64 (x4_1 + (Int.tmod (wrap64 ((Int.tmod ((rd_T36 l0 x19_1).f1) 20) + 20)) 20))) t130 t131 t132 _ A35.out).mono ?_); rintro e w44 ⟨rfl, hb⟩; refine ⟨_, rfl, ?_⟩; have n0_ := Aside0.mk (blk_below (g := gb121) (o := .cells #[.int .i64 x122000_1, .int .i64 x122001_1] 23 (0, 0)) (by (with_reducible repeat (first | refine blk_drewN ?_ _ | refine blk_drew ?_ | refine blk_alloc ?_ _)); refine blk_far ?_ NB121_124.out _; (with_reducible repeat (first | refine blk_drewN ?_ _ | refine blk_drew ?_ | refine blk_alloc ?_ _)); refine blk_far ?_ NB121_124.out _; (with_reducible repeat (first | refine blk_drewN ?_ _ | refine blk_drew ?_ | refine blk_alloc ?_ _)); refine blk_far ?_ NB121_124.out _; (with_reducible repeat (first | refine blk_drewN ?_ _ | refine blk_drew ?_ | refine blk_alloc ?_ _)); exact BK121.out) hb); have n1_ := Aside0.mk (blk_below (g := gb124) (o := .cells #[.int .i64 ((rd_T36 l0 x19_1).f0), .int .i64 ((rd_T36 l0 x19_1).f1), .bool true] 36 (0, 0)) (by (with_reducible repeat (first | refine blk_drewN ?_ _ | refine blk_drew ?_ | refine blk_alloc ?_ _)); refine blk_put (cs := #[.int .i64 ((rd_T36 l0 x19_1).f0), .int .i64 ((rd_T36 l0 x19_1).f1), .bool false]) ?_ 2 _ rfl; (with_reducible repeat (first | refine blk_drewN ?_ _ | refine blk_drew ?_ | refine blk_alloc ?_ _)); refine blk_put (cs := #[.int .i64 ((rd_T36 l0 x19_1).f0), .int .i64 0, .bool false]) ?_ 1 _ rfl; (with_reducible repeat (first | refine blk_drewN ?_ _ | refine blk_drew ?_ | refine blk_alloc ?_ _)); refine blk_put (cs := #[.int .i64 0, .int .i64 0, .bool false]) ?_ 0 _ rfl; (with_reducible repeat (first | refine blk_drewN ?_ _ | refine blk_drew ?_ | refine blk_alloc ?_ _)); exact BK124.out) hb); have n2_ := Aside0.mk (below_step (by repeat (first | (with_reducible first | exact HB.out | apply below_alloc | apply pw_below_drewN | apply below_drew1 | refine below_set ?_ GE121.out | refine below_set ?_ GE124.out) | exact HB.out)) hb); clear BK121; clear BK124; clear HB; have BK121 := n0_; have BK124 := n1_; have HB := n2_; clear n0_ n1_ n2_; (try clear hb); (try clear hb2); (try clear hk); (try clear hi)) | ((with_reducible refine gate_dst (N := 12) rfl ?_); refine box_event ?hg (N := 12) ?hd (cs := #[.int .i64 0, .int .i64 0]) (t := 23) ?hr ?_; (case hd => rfl); (case hg => rfl); (case hr => first | (go_simp; done) | (go_simp; rfl)); intro gb133 hg w45 hbox hb; have n0_ := Aside0.mk (blk_below (g := gb121) (o := .cells #[.int .i64 x122000_1, .int .i64 x122001_1] 23 (0, 0)) (by (with_reducible repeat (first | refine blk_drewN ?_ _ | refine blk_drew ?_ | refine blk_alloc ?_ _)); exact BK121.out) hb); have n1_ := Aside0.mk (blk_below (g := gb124) (o := .cells #[.int .i64 ((rd_T36 l0 x19_1).f0), .int .i64 ((rd_T36 l0 x19_1).f1), .bool true] 36 (0, 0)) (by (with_reducible repeat (first | refine blk_drewN ?_ _ | refine blk_drew ?_ | refine blk_alloc ?_ _)); exact BK124.out) hb); have n2_ := Aside0.mk (below_step (by repeat (first | (with_reducible first | exact HB.out | apply below_alloc | apply pw_below_drewN | apply below_drew1 | refine below_set ?_ GE121.out | refine below_set ?_ GE124.out) | exact HB.out)) hb); have n3_ := Aside0.mk (hbox); have n4_ := Aside0.mk ((by rw [hg]; exact (below_size (by repeat (first | (with_reducible first | exact HB.out | apply below_alloc | apply pw_below_drewN | apply below_drew1 | refine below_set ?_ GE121.out | refine below_set ?_ GE124.out) | exact HB.out))) : w.heap.size ≤ gb133)); have n5_ := Aside0.mk ((by rw [hg]; exact (below_size (by repeat (first | (with_reducible first | exact HB.out | apply below_alloc | apply pw_below_drewN | apply below_drew1 | refine below_set ?_ GE121.out | refine below_set ?_ GE124.out) | exact HB.out))) : w.heap.size ≤ gb133)); have n6_ := Aside0.mk ((by rw [hg]; exact Nat.ne_of_lt (blk_lt (g := gb121) (o := .cells #[.int .i64 x122000_1, .int .i64 x122001_1] 23 (0, 0)) (by (with_reducible repeat (first | refine blk_drewN ?_ _ | refine blk_drew ?_ | refine blk_alloc ?_ _)); exact BK121.out)) : gb121 ≠ gb133)); have n7_ := Aside0.mk ((by rw [hg]; exact Nat.ne_of_gt (blk_lt (g := gb121) (o := .cells #[.int .i64 x122000_1, .int .i64 x122001_1] 23 (0, 0)) (by (with_reducible repeat (first | refine blk_drewN ?_ _ | refine blk_drew ?_ | refine blk_alloc ?_ _)); exact BK121.out)) : gb133 ≠ gb121)); have n8_ := Aside0.mk ((by rw [hg]; exact Nat.ne_of_lt (blk_lt (g := gb124) (o := .cells #[.int .i64 ((rd_T36 l0 x19_1).f0), .int .i64 ((rd_T36 l0 x19_1).f1), .bool true] 36 (0, 0)) (by (with_reducible repeat (first | refine blk_drewN ?_ _ | refine blk_drew ?_ | refine blk_alloc ?_ _)); exact BK124.out)) : gb124 ≠ gb133)); have n9_ := Aside0.mk ((by rw [hg]; exact Nat.ne_of_gt (blk_lt (g := gb124) (o := .cells #[.int .i64 ((rd_T36 l0 x19_1).f0), .int .i64 ((rd_T36 l0 x19_1).f1), .bool true] 36 (0, 0)) (by (with_reducible repeat (first | refine blk_drewN ?_ _ | refine blk_drew ?_ | refine blk_alloc ?_ _)); exact BK124.out)) : gb133 ≠ gb124)); clear BK121; clear BK124; clear HB; have BK121 := n0_; have BK124 := n1_; have HB := n2_; have BK133 := n3_; have GW133 := n4_; have GE133 := n5_; have NB121_133 := n6_; have NB133_121 := n7_; have NB124_133 := n8_; have NB133_124 := n9_; clear n0_ n1_ n2_ n3_ n4_ n5_ n6_ n7_ n8_ n9_; clear hb hbox hg; have hnb46 := NB133_121.out; have hnc46 := NB121_133.out; have hnb47 := NB133_124.out; have hnc47 := NB124_133.out; have hcz48_0 : w45.cell? ⟨gb133, 0, none⟩ = some (.int .i64 0) := (blk_cell BK133.out 0).trans rfl; have hcz48_1 : w45.cell? ⟨gb133, 1, none⟩ = some (.int .i64 0) := (blk_cell BK133.out 1).trans rfl; have hfz48_0 := blk_frozen BK133.out 0; have hfz48_1 := blk_frozen BK133.out 1; have hcz49_0 : w45.cell? ⟨gb121, 0, none⟩ = some (.int .i64 x122000_1) := (blk_cell BK121.out 0).trans rfl; have hcz49_1 : w45.cell? ⟨gb121, 1, none⟩ = some (.int .i64 x122001_1) := (blk_cell BK121.out 1).trans rfl; have hfz49_0 := blk_frozen BK121.out 0; have hfz49_1 := blk_frozen BK121.out 1; have hcz50_0 : w45.cell? ⟨gb124, 0, none⟩ = some (.int .i64 ((rd_T36 l0 x19_1).f0)) := (blk_cell BK124.out 0).trans rfl; have hcz50_1 : w45.cell? ⟨gb124, 1, none⟩ = some (.int .i64 ((rd_T36 l0 x19_1).f1)) := (blk_cell BK124.out 1).trans rfl; have hcz50_2 : w45.cell? ⟨gb124, 2, none⟩ = some (.bool true) := (blk_cell BK124.out 2).trans rfl; have hfz50_0 := blk_frozen BK124.out 0; have hfz50_1 := blk_frozen BK124.out 1; have hfz50_2 := blk_frozen BK124.out 2))
                            go_ret
                            exact ⟨by first | rfl | (simp [errW_none, errW_some] <;> rfl) | (simp [*, errW_none, errW_some] <;> rfl), by repeat (first | (with_reducible first | exact HB.out | apply below_alloc | apply pw_below_drewN | apply below_drew1 | refine below_set ?_ GE121.out | refine below_set ?_ GE124.out | refine below_set ?_ GE133.out) | exact HB.out)⟩
                          · rw [if_neg c40] at H
                            have c40b0 : decide (x7_1 ≤ (wrap64 (x4_1 + (Int.tmod (wrap64 ((Int.tmod ((rd_T36 l0 x19_1).f1) 20) + 20)) 20)))) = false := decide_eq_false c40
                            clear c40
                            have H' := Aside0.mk H
                            clear H
                            have hnb51 := NB121_124.out
                            have hnc51 := NB124_121.out
                            have hcz52_0 : w13.cell? ⟨gb121, 0, none⟩ = some (.int .i64 x122000_1) := (blk_cell BK121.out 0).trans rfl
                            have hcz52_1 : w13.cell? ⟨gb121, 1, none⟩ = some (.int .i64 x122001_1) := (blk_cell BK121.out 1).trans rfl
                            have hfz52_0 := blk_frozen BK121.out 0
                            have hfz52_1 := blk_frozen BK121.out 1
                            have hcz53_0 : w13.cell? ⟨gb124, 0, none⟩ = some (.int .i64 0) := (blk_cell BK124.out 0).trans rfl
                            have hcz53_1 : w13.cell? ⟨gb124, 1, none⟩ = some (.int .i64 0) := (blk_cell BK124.out 1).trans rfl
                            have hcz53_2 : w13.cell? ⟨gb124, 2, none⟩ = some (.bool false) := (blk_cell BK124.out 2).trans rfl
                            have hfz53_0 := blk_frozen BK124.out 0
                            have hfz53_1 := blk_frozen BK124.out 1
                            have hfz53_2 := blk_frozen BK124.out 2
                            go_wp2_with (first | ((with_reducible refine gate_callee (f := 6) rfl ?_); refine goesL_ (some 71) rfl rfl Try.func6 (by kernel_rfl) rfl #[.agg #[.int .i64 x122000_1, .int .i64 x122001_1], .bool true, .int .i64 (wrap64 (x4_1 + (Int.tmod (wrap64 ((Int.tmod ((rd_T36 l0 x19_1).f1) 20) + 20)) 20)))] rfl (by (try simp only [List.map_toArray, List.map_cons, List.map_nil]); first | done | rfl | (simp only [List.length_drop, List.length_take]; rfl)) ?_; (with_reducible refine (ask_Answer.calls x122000_1 x122001_1 true (wrap64 (x4_1 + (Int.tmod (wrap64 ((Int.tmod ((rd_T36 l0 x19_1).f1) 20) + 20)) 20))) t130 t131 t132 _ A35.out).mono ?_); rintro e w54 ⟨rfl, hb⟩; refine ⟨_, rfl, ?_⟩; have n0_ := Aside0.mk (blk_below (g := gb121) (o := .cells #[.int .i64 x122000_1, .int .i64 x122001_1] 23 (0, 0)) (by (with_reducible repeat (first | refine blk_drewN ?_ _ | refine blk_drew ?_ | refine blk_alloc ?_ _)); refine blk_far ?_ NB121_124.out _; (with_reducible repeat (first | refine blk_drewN ?_ _ | refine blk_drew ?_ | refine blk_alloc ?_ _)); refine blk_far ?_ NB121_124.out _; (with_reducible repeat (first | refine blk_drewN ?_ _ | refine blk_drew ?_ | refine blk_alloc ?_ _)); refine blk_far ?_ NB121_124.out _; (with_reducible repeat (first | refine blk_drewN ?_ _ | refine blk_drew ?_ | refine blk_alloc ?_ _)); exact BK121.out) hb); have n1_ := Aside0.mk (blk_below (g := gb124) (o := .cells #[.int .i64 ((rd_T36 l0 x19_1).f0), .int .i64 ((rd_T36 l0 x19_1).f1), .bool true] 36 (0, 0)) (by (with_reducible repeat (first | refine blk_drewN ?_ _ | refine blk_drew ?_ | refine blk_alloc ?_ _)); refine blk_put (cs := #[.int .i64 ((rd_T36 l0 x19_1).f0), .int .i64 ((rd_T36 l0 x19_1).f1), .bool false]) ?_ 2 _ rfl; (with_reducible repeat (first | refine blk_drewN ?_ _ | refine blk_drew ?_ | refine blk_alloc ?_ _)); refine blk_put (cs := #[.int .i64 ((rd_T36 l0 x19_1).f0), .int .i64 0, .bool false]) ?_ 1 _ rfl; (with_reducible repeat (first | refine blk_drewN ?_ _ | refine blk_drew ?_ | refine blk_alloc ?_ _)); refine blk_put (cs := #[.int .i64 0, .int .i64 0, .bool false]) ?_ 0 _ rfl; (with_reducible repeat (first | refine blk_drewN ?_ _ | refine blk_drew ?_ | refine blk_alloc ?_ _)); exact BK124.out) hb); have n2_ := Aside0.mk (below_step (by repeat (first | (with_reducible first | exact HB.out | apply below_alloc | apply pw_below_drewN | apply below_drew1 | refine below_set ?_ GE121.out | refine below_set ?_ GE124.out) | exact HB.out)) hb); clear BK121; clear BK124; clear HB; have BK121 := n0_; have BK124 := n1_; have HB := n2_; clear n0_ n1_ n2_; (try clear hb); (try clear hb2); (try clear hk); (try clear hi)) | ((with_reducible refine gate_dst (N := 12) rfl ?_); refine box_event ?hg (N := 12) ?hd (cs := #[.int .i64 0, .int .i64 0]) (t := 23) ?hr ?_; (case hd => rfl); (case hg => rfl); (case hr => first | (go_simp; done) | (go_simp; rfl)); intro gb133 hg w55 hbox hb; have n0_ := Aside0.mk (blk_below (g := gb121) (o := .cells #[.int .i64 x122000_1, .int .i64 x122001_1] 23 (0, 0)) (by (with_reducible repeat (first | refine blk_drewN ?_ _ | refine blk_drew ?_ | refine blk_alloc ?_ _)); exact BK121.out) hb); have n1_ := Aside0.mk (blk_below (g := gb124) (o := .cells #[.int .i64 ((rd_T36 l0 x19_1).f0), .int .i64 ((rd_T36 l0 x19_1).f1), .bool true] 36 (0, 0)) (by (with_reducible repeat (first | refine blk_drewN ?_ _ | refine blk_drew ?_ | refine blk_alloc ?_ _)); exact BK124.out) hb); have n2_ := Aside0.mk (below_step (by repeat (first | (with_reducible first | exact HB.out | apply below_alloc | apply pw_below_drewN | apply below_drew1 | refine below_set ?_ GE121.out | refine below_set ?_ GE124.out) | exact HB.out)) hb); have n3_ := Aside0.mk (hbox); have n4_ := Aside0.mk ((by rw [hg]; exact (below_size (by repeat (first | (with_reducible first | exact HB.out | apply below_alloc | apply pw_below_drewN | apply below_drew1 | refine below_set ?_ GE121.out | refine below_set ?_ GE124.out) | exact HB.out))) : w.heap.size ≤ gb133)); have n5_ := Aside0.mk ((by rw [hg]; exact (below_size (by repeat (first | (with_reducible first | exact HB.out | apply below_alloc | apply pw_below_drewN | apply below_drew1 | refine below_set ?_ GE121.out | refine below_set ?_ GE124.out) | exact HB.out))) : w.heap.size ≤ gb133)); have n6_ := Aside0.mk ((by rw [hg]; exact Nat.ne_of_lt (blk_lt (g := gb121) (o := .cells #[.int .i64 x122000_1, .int .i64 x122001_1] 23 (0, 0)) (by (with_reducible repeat (first | refine blk_drewN ?_ _ | refine blk_drew ?_ | refine blk_alloc ?_ _)); exact BK121.out)) : gb121 ≠ gb133)); have n7_ := Aside0.mk ((by rw [hg]; exact Nat.ne_of_gt (blk_lt (g := gb121) (o := .cells #[.int .i64 x122000_1, .int .i64 x122001_1] 23 (0, 0)) (by (with_reducible repeat (first | refine blk_drewN ?_ _ | refine blk_drew ?_ | refine blk_alloc ?_ _)); exact BK121.out)) : gb133 ≠ gb121)); have n8_ := Aside0.mk ((by rw [hg]; exact Nat.ne_of_lt (blk_lt (g := gb124) (o := .cells #[.int .i64 ((rd_T36 l0 x19_1).f0), .int .i64 ((rd_T36 l0 x19_1).f1), .bool true] 36 (0, 0)) (by (with_reducible repeat (first | refine blk_drewN ?_ _ | refine blk_drew ?_ | refine blk_alloc ?_ _)); exact BK124.out)) : gb124 ≠ gb133)); have n9_ := Aside0.mk ((by rw [hg]; exact Nat.ne_of_gt (blk_lt (g := gb124) (o := .cells #[.int .i64 ((rd_T36 l0 x19_1).f0), .int .i64 ((rd_T36 l0 x19_1).f1), .bool true] 36 (0, 0)) (by (with_reducible repeat (first | refine blk_drewN ?_ _ | refine blk_drew ?_ | refine blk_alloc ?_ _)); exact BK124.out)) : gb133 ≠ gb124)); clear BK121; clear BK124; clear HB; have BK121 := n0_; have BK124 := n1_; have HB := n2_; have BK133 := n3_; have GW133 := n4_; have GE133 := n5_; have NB121_133 := n6_; have NB133_121 := n7_; have NB124_133 := n8_; have NB133_124 := n9_; clear n0_ n1_ n2_ n3_ n4_ n5_ n6_ n7_ n8_ n9_; clear hb hbox hg; have hnb56 := NB133_121.out; have hnc56 := NB121_133.out; have hnb57 := NB133_124.out; have hnc57 := NB124_133.out; have hcz58_0 : w55.cell? ⟨gb133, 0, none⟩ = some (.int .i64 0) := (blk_cell BK133.out 0).trans rfl; have hcz58_1 : w55.cell? ⟨gb133, 1, none⟩ = some (.int .i64 0) := (blk_cell BK133.out 1).trans rfl; have hfz58_0 := blk_frozen BK133.out 0; have hfz58_1 := blk_frozen BK133.out 1; have hcz59_0 : w55.cell? ⟨gb121, 0, none⟩ = some (.int .i64 x122000_1) := (blk_cell BK121.out 0).trans rfl; have hcz59_1 : w55.cell? ⟨gb121, 1, none⟩ = some (.int .i64 x122001_1) := (blk_cell BK121.out 1).trans rfl; have hfz59_0 := blk_frozen BK121.out 0; have hfz59_1 := blk_frozen BK121.out 1; have hcz60_0 : w55.cell? ⟨gb124, 0, none⟩ = some (.int .i64 ((rd_T36 l0 x19_1).f0)) := (blk_cell BK124.out 0).trans rfl; have hcz60_1 : w55.cell? ⟨gb124, 1, none⟩ = some (.int .i64 ((rd_T36 l0 x19_1).f1)) := (blk_cell BK124.out 1).trans rfl; have hcz60_2 : w55.cell? ⟨gb124, 2, none⟩ = some (.bool true) := (blk_cell BK124.out 2).trans rfl; have hfz60_0 := blk_frozen BK124.out 0; have hfz60_1 := blk_frozen BK124.out 1; have hfz60_2 := blk_frozen BK124.out 2))
                            go_meet
                            case rel => exact ⟨_, (x5_1), (wrap64 (x6_1 + 1)), (x7_1), (t130), (t131), (by first | rfl | (simp; done) | (simp [*]; done)), (by first | rfl | (simp; done) | (simp [*]; done)), (by first | rfl | (simp; done) | (simp [*]; done)), H', ⟨by have := HK1.out; first | omega | exact Nat.le_refl _⟩, ⟨by (with_reducible repeat (first | refine blk_drewN ?_ _ | refine blk_drew ?_ | refine blk_alloc ?_ _)); refine blk_put (cs := #[.int .i64 t130, .int .i64 x122001_1]) ?_ 1 _ rfl; (with_reducible repeat (first | refine blk_drewN ?_ _ | refine blk_drew ?_ | refine blk_alloc ?_ _)); refine blk_put (cs := #[.int .i64 x122000_1, .int .i64 x122001_1]) ?_ 0 _ rfl; (with_reducible repeat (first | refine blk_drewN ?_ _ | refine blk_drew ?_ | refine blk_alloc ?_ _)); refine blk_far ?_ NB121_133.out _; (with_reducible repeat (first | refine blk_drewN ?_ _ | refine blk_drew ?_ | refine blk_alloc ?_ _)); refine blk_far ?_ NB121_133.out _; (with_reducible repeat (first | refine blk_drewN ?_ _ | refine blk_drew ?_ | refine blk_alloc ?_ _)); (first | exact BK121.out | (simp only [hbq37]; exact BK121.out))⟩, ⟨by (with_reducible repeat (first | refine blk_drewN ?_ _ | refine blk_drew ?_ | refine blk_alloc ?_ _)); refine blk_far ?_ NB124_121.out _; (with_reducible repeat (first | refine blk_drewN ?_ _ | refine blk_drew ?_ | refine blk_alloc ?_ _)); refine blk_far ?_ NB124_121.out _; (with_reducible repeat (first | refine blk_drewN ?_ _ | refine blk_drew ?_ | refine blk_alloc ?_ _)); refine blk_far ?_ NB124_133.out _; (with_reducible repeat (first | refine blk_drewN ?_ _ | refine blk_drew ?_ | refine blk_alloc ?_ _)); refine blk_far ?_ NB124_133.out _; (with_reducible repeat (first | refine blk_drewN ?_ _ | refine blk_drew ?_ | refine blk_alloc ?_ _)); (first | exact BK124.out | (simp only [hbq37]; exact BK124.out))⟩, ⟨by repeat (first | (with_reducible first | exact HB.out | apply below_alloc | apply pw_below_drewN | apply below_drew1 | refine below_set ?_ GE121.out | refine below_set ?_ GE124.out | refine below_set ?_ GE133.out) | exact HB.out)⟩⟩
                        · rw [if_neg c39] at H
                          have c39b0 : (x5_1 == 1) = false := beq_eq_false_iff_ne.mpr c39
                          have c39b1 : (x5_1 != 1) = true := bne_iff_ne.mpr c39
                          obtain rfl := Option.some.inj H
                          have hnb61 := NB121_124.out
                          have hnc61 := NB124_121.out
                          have hcz62_0 : w13.cell? ⟨gb121, 0, none⟩ = some (.int .i64 x122000_1) := (blk_cell BK121.out 0).trans rfl
                          have hcz62_1 : w13.cell? ⟨gb121, 1, none⟩ = some (.int .i64 x122001_1) := (blk_cell BK121.out 1).trans rfl
                          have hfz62_0 := blk_frozen BK121.out 0
                          have hfz62_1 := blk_frozen BK121.out 1
                          have hcz63_0 : w13.cell? ⟨gb124, 0, none⟩ = some (.int .i64 0) := (blk_cell BK124.out 0).trans rfl
                          have hcz63_1 : w13.cell? ⟨gb124, 1, none⟩ = some (.int .i64 0) := (blk_cell BK124.out 1).trans rfl
                          have hcz63_2 : w13.cell? ⟨gb124, 2, none⟩ = some (.bool false) := (blk_cell BK124.out 2).trans rfl
                          have hfz63_0 := blk_frozen BK124.out 0
                          have hfz63_1 := blk_frozen BK124.out 1
                          have hfz63_2 := blk_frozen BK124.out 2
                          go_wp2_with (first | ((with_reducible refine gate_callee (f := 6) rfl ?_); refine goesL_ (some 71) rfl rfl Try.func6 (by kernel_rfl) rfl #[.agg #[.int .i64 x122000_1, .int .i64 x122001_1], .bool true, .int .i64 (wrap64 (x4_1 + (Int.tmod (wrap64 ((Int.tmod ((rd_T36 l0 x19_1).f1) 20) + 20)) 20)))] rfl (by (try simp only [List.map_toArray, List.map_cons, List.map_nil]); first | done | rfl | (simp only [List.length_drop, List.length_take]; rfl)) ?_; (with_reducible refine (ask_Answer.calls x122000_1 x122001_1 true (wrap64 (x4_1 + (Int.tmod (wrap64 ((Int.tmod ((rd_T36 l0 x19_1).f1) 20) + 20)) 20))) t130 t131 t132 _ A35.out).mono ?_); rintro e w64 ⟨rfl, hb⟩; refine ⟨_, rfl, ?_⟩; have n0_ := Aside0.mk (blk_below (g := gb121) (o := .cells #[.int .i64 x122000_1, .int .i64 x122001_1] 23 (0, 0)) (by (with_reducible repeat (first | refine blk_drewN ?_ _ | refine blk_drew ?_ | refine blk_alloc ?_ _)); refine blk_far ?_ NB121_124.out _; (with_reducible repeat (first | refine blk_drewN ?_ _ | refine blk_drew ?_ | refine blk_alloc ?_ _)); refine blk_far ?_ NB121_124.out _; (with_reducible repeat (first | refine blk_drewN ?_ _ | refine blk_drew ?_ | refine blk_alloc ?_ _)); refine blk_far ?_ NB121_124.out _; (with_reducible repeat (first | refine blk_drewN ?_ _ | refine blk_drew ?_ | refine blk_alloc ?_ _)); exact BK121.out) hb); have n1_ := Aside0.mk (blk_below (g := gb124) (o := .cells #[.int .i64 ((rd_T36 l0 x19_1).f0), .int .i64 ((rd_T36 l0 x19_1).f1), .bool true] 36 (0, 0)) (by (with_reducible repeat (first | refine blk_drewN ?_ _ | refine blk_drew ?_ | refine blk_alloc ?_ _)); refine blk_put (cs := #[.int .i64 ((rd_T36 l0 x19_1).f0), .int .i64 ((rd_T36 l0 x19_1).f1), .bool false]) ?_ 2 _ rfl; (with_reducible repeat (first | refine blk_drewN ?_ _ | refine blk_drew ?_ | refine blk_alloc ?_ _)); refine blk_put (cs := #[.int .i64 ((rd_T36 l0 x19_1).f0), .int .i64 0, .bool false]) ?_ 1 _ rfl; (with_reducible repeat (first | refine blk_drewN ?_ _ | refine blk_drew ?_ | refine blk_alloc ?_ _)); refine blk_put (cs := #[.int .i64 0, .int .i64 0, .bool false]) ?_ 0 _ rfl; (with_reducible repeat (first | refine blk_drewN ?_ _ | refine blk_drew ?_ | refine blk_alloc ?_ _)); exact BK124.out) hb); have n2_ := Aside0.mk (below_step (by repeat (first | (with_reducible first | exact HB.out | apply below_alloc | apply pw_below_drewN | apply below_drew1 | refine below_set ?_ GE121.out | refine below_set ?_ GE124.out) | exact HB.out)) hb); clear BK121; clear BK124; clear HB; have BK121 := n0_; have BK124 := n1_; have HB := n2_; clear n0_ n1_ n2_; (try clear hb); (try clear hb2); (try clear hk); (try clear hi)) | ((with_reducible refine gate_dst (N := 12) rfl ?_); refine box_event ?hg (N := 12) ?hd (cs := #[.int .i64 0, .int .i64 0]) (t := 23) ?hr ?_; (case hd => rfl); (case hg => rfl); (case hr => first | (go_simp; done) | (go_simp; rfl)); intro gb133 hg w65 hbox hb; have n0_ := Aside0.mk (blk_below (g := gb121) (o := .cells #[.int .i64 x122000_1, .int .i64 x122001_1] 23 (0, 0)) (by (with_reducible repeat (first | refine blk_drewN ?_ _ | refine blk_drew ?_ | refine blk_alloc ?_ _)); exact BK121.out) hb); have n1_ := Aside0.mk (blk_below (g := gb124) (o := .cells #[.int .i64 ((rd_T36 l0 x19_1).f0), .int .i64 ((rd_T36 l0 x19_1).f1), .bool true] 36 (0, 0)) (by (with_reducible repeat (first | refine blk_drewN ?_ _ | refine blk_drew ?_ | refine blk_alloc ?_ _)); exact BK124.out) hb); have n2_ := Aside0.mk (below_step (by repeat (first | (with_reducible first | exact HB.out | apply below_alloc | apply pw_below_drewN | apply below_drew1 | refine below_set ?_ GE121.out | refine below_set ?_ GE124.out) | exact HB.out)) hb); have n3_ := Aside0.mk (hbox); have n4_ := Aside0.mk ((by rw [hg]; exact (below_size (by repeat (first | (with_reducible first | exact HB.out | apply below_alloc | apply pw_below_drewN | apply below_drew1 | refine below_set ?_ GE121.out | refine below_set ?_ GE124.out) | exact HB.out))) : w.heap.size ≤ gb133)); have n5_ := Aside0.mk ((by rw [hg]; exact (below_size (by repeat (first | (with_reducible first | exact HB.out | apply below_alloc | apply pw_below_drewN | apply below_drew1 | refine below_set ?_ GE121.out | refine below_set ?_ GE124.out) | exact HB.out))) : w.heap.size ≤ gb133)); have n6_ := Aside0.mk ((by rw [hg]; exact Nat.ne_of_lt (blk_lt (g := gb121) (o := .cells #[.int .i64 x122000_1, .int .i64 x122001_1] 23 (0, 0)) (by (with_reducible repeat (first | refine blk_drewN ?_ _ | refine blk_drew ?_ | refine blk_alloc ?_ _)); exact BK121.out)) : gb121 ≠ gb133)); have n7_ := Aside0.mk ((by rw [hg]; exact Nat.ne_of_gt (blk_lt (g := gb121) (o := .cells #[.int .i64 x122000_1, .int .i64 x122001_1] 23 (0, 0)) (by (with_reducible repeat (first | refine blk_drewN ?_ _ | refine blk_drew ?_ | refine blk_alloc ?_ _)); exact BK121.out)) : gb133 ≠ gb121)); have n8_ := Aside0.mk ((by rw [hg]; exact Nat.ne_of_lt (blk_lt (g := gb124) (o := .cells #[.int .i64 ((rd_T36 l0 x19_1).f0), .int .i64 ((rd_T36 l0 x19_1).f1), .bool true] 36 (0, 0)) (by (with_reducible repeat (first | refine blk_drewN ?_ _ | refine blk_drew ?_ | refine blk_alloc ?_ _)); exact BK124.out)) : gb124 ≠ gb133)); have n9_ := Aside0.mk ((by rw [hg]; exact Nat.ne_of_gt (blk_lt (g := gb124) (o := .cells #[.int .i64 ((rd_T36 l0 x19_1).f0), .int .i64 ((rd_T36 l0 x19_1).f1), .bool true] 36 (0, 0)) (by (with_reducible repeat (first | refine blk_drewN ?_ _ | refine blk_drew ?_ | refine blk_alloc ?_ _)); exact BK124.out)) : gb133 ≠ gb124)); clear BK121; clear BK124; clear HB; have BK121 := n0_; have BK124 := n1_; have HB := n2_; have BK133 := n3_; have GW133 := n4_; have GE133 := n5_; have NB121_133 := n6_; have NB133_121 := n7_; have NB124_133 := n8_; have NB133_124 := n9_; clear n0_ n1_ n2_ n3_ n4_ n5_ n6_ n7_ n8_ n9_; clear hb hbox hg; have hnb66 := NB133_121.out; have hnc66 := NB121_133.out; have hnb67 := NB133_124.out; have hnc67 := NB124_133.out; have hcz68_0 : w65.cell? ⟨gb133, 0, none⟩ = some (.int .i64 0) := (blk_cell BK133.out 0).trans rfl; have hcz68_1 : w65.cell? ⟨gb133, 1, none⟩ = some (.int .i64 0) := (blk_cell BK133.out 1).trans rfl; have hfz68_0 := blk_frozen BK133.out 0; have hfz68_1 := blk_frozen BK133.out 1; have hcz69_0 : w65.cell? ⟨gb121, 0, none⟩ = some (.int .i64 x122000_1) := (blk_cell BK121.out 0).trans rfl; have hcz69_1 : w65.cell? ⟨gb121, 1, none⟩ = some (.int .i64 x122001_1) := (blk_cell BK121.out 1).trans rfl; have hfz69_0 := blk_frozen BK121.out 0; have hfz69_1 := blk_frozen BK121.out 1; have hcz70_0 : w65.cell? ⟨gb124, 0, none⟩ = some (.int .i64 ((rd_T36 l0 x19_1).f0)) := (blk_cell BK124.out 0).trans rfl; have hcz70_1 : w65.cell? ⟨gb124, 1, none⟩ = some (.int .i64 ((rd_T36 l0 x19_1).f1)) := (blk_cell BK124.out 1).trans rfl; have hcz70_2 : w65.cell? ⟨gb124, 2, none⟩ = some (.bool true) := (blk_cell BK124.out 2).trans rfl; have hfz70_0 := blk_frozen BK124.out 0; have hfz70_1 := blk_frozen BK124.out 1; have hfz70_2 := blk_frozen BK124.out 2))
                          go_ret
                          exact ⟨by first | rfl | (simp [errW_none, errW_some] <;> rfl) | (simp [*, errW_none, errW_some] <;> rfl), by repeat (first | (with_reducible first | exact HB.out | apply below_alloc | apply pw_below_drewN | apply below_drew1 | refine below_set ?_ GE121.out | refine below_set ?_ GE124.out | refine below_set ?_ GE133.out) | exact HB.out)⟩
                      · replace c38 := Bool.eq_false_iff.mpr c38
                        subst c38
                        try have hbq37 := Nbq37.out.symm
                        try simp only [hbq37] at A7
                        try simp only [hbq37] at A17
                        try simp only [hbq37] at A35
                        have H1 : (if x5_1 = 1 then (if (wrap64 (x4_1 + (Int.tmod (wrap64 ((Int.tmod ((rd_T36 l0 x19_1).f1) 20) + 20)) 20))) ≥ x7_1 then (some false) else (tarrylaw12_AskOnce.j1 k1 (wrap64 (x4_1 + (Int.tmod (wrap64 ((Int.tmod ((rd_T36 l0 x19_1).f1) 20) + 20)) 20))) x5_1 x6_1 x7_1 l0 (l0.length : Int) x19_1 t130 t131)) else (some false)) = some r := by rw [if_neg (show ¬ (false = true) by decide)] at H; exact H
                        clear H
                        have H := H1
                        clear H1
                        by_cases c71 : x5_1 = 1
                        · rw [if_pos c71] at H
                          have c71b0 : (x5_1 == 1) = true := beq_iff_eq.mpr c71
                          have c71b1 : (x5_1 != 1) = false := bne_eq_false_iff_eq.mpr c71
                          clear c71
                          by_cases c72 : (wrap64 (x4_1 + (Int.tmod (wrap64 ((Int.tmod ((rd_T36 l0 x19_1).f1) 20) + 20)) 20))) ≥ x7_1
                          · rw [if_pos c72] at H
                            have c72b0 : decide (x7_1 ≤ (wrap64 (x4_1 + (Int.tmod (wrap64 ((Int.tmod ((rd_T36 l0 x19_1).f1) 20) + 20)) 20)))) = true := decide_eq_true c72
                            clear c72
                            obtain rfl := Option.some.inj H
                            have hnb73 := NB121_124.out
                            have hnc73 := NB124_121.out
                            have hcz74_0 : w13.cell? ⟨gb121, 0, none⟩ = some (.int .i64 x122000_1) := (blk_cell BK121.out 0).trans rfl
                            have hcz74_1 : w13.cell? ⟨gb121, 1, none⟩ = some (.int .i64 x122001_1) := (blk_cell BK121.out 1).trans rfl
                            have hfz74_0 := blk_frozen BK121.out 0
                            have hfz74_1 := blk_frozen BK121.out 1
                            have hcz75_0 : w13.cell? ⟨gb124, 0, none⟩ = some (.int .i64 0) := (blk_cell BK124.out 0).trans rfl
                            have hcz75_1 : w13.cell? ⟨gb124, 1, none⟩ = some (.int .i64 0) := (blk_cell BK124.out 1).trans rfl
                            have hcz75_2 : w13.cell? ⟨gb124, 2, none⟩ = some (.bool false) := (blk_cell BK124.out 2).trans rfl
                            have hfz75_0 := blk_frozen BK124.out 0
                            have hfz75_1 := blk_frozen BK124.out 1
                            have hfz75_2 := blk_frozen BK124.out 2
                            go_wp2_with (first | ((with_reducible refine gate_callee (f := 6) rfl ?_); refine goesL_ (some 71) rfl rfl Try.func6 (by kernel_rfl) rfl #[.agg #[.int .i64 x122000_1, .int .i64 x122001_1], .bool false, .int .i64 (wrap64 (x4_1 + (Int.tmod (wrap64 ((Int.tmod ((rd_T36 l0 x19_1).f1) 20) + 20)) 20)))] rfl (by (try simp only [List.map_toArray, List.map_cons, List.map_nil]); first | done | rfl | (simp only [List.length_drop, List.length_take]; rfl)) ?_; (with_reducible refine (ask_Answer.calls x122000_1 x122001_1 false (wrap64 (x4_1 + (Int.tmod (wrap64 ((Int.tmod ((rd_T36 l0 x19_1).f1) 20) + 20)) 20))) t130 t131 t132 _ A35.out).mono ?_); rintro e w76 ⟨rfl, hb⟩; refine ⟨_, rfl, ?_⟩; have n0_ := Aside0.mk (blk_below (g := gb121) (o := .cells #[.int .i64 x122000_1, .int .i64 x122001_1] 23 (0, 0)) (by (with_reducible repeat (first | refine blk_drewN ?_ _ | refine blk_drew ?_ | refine blk_alloc ?_ _)); refine blk_far ?_ NB121_124.out _; (with_reducible repeat (first | refine blk_drewN ?_ _ | refine blk_drew ?_ | refine blk_alloc ?_ _)); refine blk_far ?_ NB121_124.out _; (with_reducible repeat (first | refine blk_drewN ?_ _ | refine blk_drew ?_ | refine blk_alloc ?_ _)); refine blk_far ?_ NB121_124.out _; (with_reducible repeat (first | refine blk_drewN ?_ _ | refine blk_drew ?_ | refine blk_alloc ?_ _)); exact BK121.out) hb); have n1_ := Aside0.mk (blk_below (g := gb124) (o := .cells #[.int .i64 ((rd_T36 l0 x19_1).f0), .int .i64 ((rd_T36 l0 x19_1).f1), .bool false] 36 (0, 0)) (by (with_reducible repeat (first | refine blk_drewN ?_ _ | refine blk_drew ?_ | refine blk_alloc ?_ _)); refine blk_put (cs := #[.int .i64 ((rd_T36 l0 x19_1).f0), .int .i64 ((rd_T36 l0 x19_1).f1), .bool false]) ?_ 2 _ rfl; (with_reducible repeat (first | refine blk_drewN ?_ _ | refine blk_drew ?_ | refine blk_alloc ?_ _)); refine blk_put (cs := #[.int .i64 ((rd_T36 l0 x19_1).f0), .int .i64 0, .bool false]) ?_ 1 _ rfl; (with_reducible repeat (first | refine blk_drewN ?_ _ | refine blk_drew ?_ | refine blk_alloc ?_ _)); refine blk_put (cs := #[.int .i64 0, .int .i64 0, .bool false]) ?_ 0 _ rfl; (with_reducible repeat (first | refine blk_drewN ?_ _ | refine blk_drew ?_ | refine blk_alloc ?_ _)); exact BK124.out) hb); have n2_ := Aside0.mk (below_step (by repeat (first | (with_reducible first | exact HB.out | apply below_alloc | apply pw_below_drewN | apply below_drew1 | refine below_set ?_ GE121.out | refine below_set ?_ GE124.out) | exact HB.out)) hb); clear BK121; clear BK124; clear HB; have BK121 := n0_; have BK124 := n1_; have HB := n2_; clear n0_ n1_ n2_; (try clear hb); (try clear hb2); (try clear hk); (try clear hi)) | ((with_reducible refine gate_dst (N := 12) rfl ?_); refine box_event ?hg (N := 12) ?hd (cs := #[.int .i64 0, .int .i64 0]) (t := 23) ?hr ?_; (case hd => rfl); (case hg => rfl); (case hr => first | (go_simp; done) | (go_simp; rfl)); intro gb133 hg w77 hbox hb; have n0_ := Aside0.mk (blk_below (g := gb121) (o := .cells #[.int .i64 x122000_1, .int .i64 x122001_1] 23 (0, 0)) (by (with_reducible repeat (first | refine blk_drewN ?_ _ | refine blk_drew ?_ | refine blk_alloc ?_ _)); exact BK121.out) hb); have n1_ := Aside0.mk (blk_below (g := gb124) (o := .cells #[.int .i64 ((rd_T36 l0 x19_1).f0), .int .i64 ((rd_T36 l0 x19_1).f1), .bool false] 36 (0, 0)) (by (with_reducible repeat (first | refine blk_drewN ?_ _ | refine blk_drew ?_ | refine blk_alloc ?_ _)); exact BK124.out) hb); have n2_ := Aside0.mk (below_step (by repeat (first | (with_reducible first | exact HB.out | apply below_alloc | apply pw_below_drewN | apply below_drew1 | refine below_set ?_ GE121.out | refine below_set ?_ GE124.out) | exact HB.out)) hb); have n3_ := Aside0.mk (hbox); have n4_ := Aside0.mk ((by rw [hg]; exact (below_size (by repeat (first | (with_reducible first | exact HB.out | apply below_alloc | apply pw_below_drewN | apply below_drew1 | refine below_set ?_ GE121.out | refine below_set ?_ GE124.out) | exact HB.out))) : w.heap.size ≤ gb133)); have n5_ := Aside0.mk ((by rw [hg]; exact (below_size (by repeat (first | (with_reducible first | exact HB.out | apply below_alloc | apply pw_below_drewN | apply below_drew1 | refine below_set ?_ GE121.out | refine below_set ?_ GE124.out) | exact HB.out))) : w.heap.size ≤ gb133)); have n6_ := Aside0.mk ((by rw [hg]; exact Nat.ne_of_lt (blk_lt (g := gb121) (o := .cells #[.int .i64 x122000_1, .int .i64 x122001_1] 23 (0, 0)) (by (with_reducible repeat (first | refine blk_drewN ?_ _ | refine blk_drew ?_ | refine blk_alloc ?_ _)); exact BK121.out)) : gb121 ≠ gb133)); have n7_ := Aside0.mk ((by rw [hg]; exact Nat.ne_of_gt (blk_lt (g := gb121) (o := .cells #[.int .i64 x122000_1, .int .i64 x122001_1] 23 (0, 0)) (by (with_reducible repeat (first | refine blk_drewN ?_ _ | refine blk_drew ?_ | refine blk_alloc ?_ _)); exact BK121.out)) : gb133 ≠ gb121)); have n8_ := Aside0.mk ((by rw [hg]; exact Nat.ne_of_lt (blk_lt (g := gb124) (o := .cells #[.int .i64 ((rd_T36 l0 x19_1).f0), .int .i64 ((rd_T36 l0 x19_1).f1), .bool false] 36 (0, 0)) (by (with_reducible repeat (first | refine blk_drewN ?_ _ | refine blk_drew ?_ | refine blk_alloc ?_ _)); exact BK124.out)) : gb124 ≠ gb133)); have n9_ := Aside0.mk ((by rw [hg]; exact Nat.ne_of_gt (blk_lt (g := gb124) (o := .cells #[.int .i64 ((rd_T36 l0 x19_1).f0), .int .i64 ((rd_T36 l0 x19_1).f1), .bool false] 36 (0, 0)) (by (with_reducible repeat (first | refine blk_drewN ?_ _ | refine blk_drew ?_ | refine blk_alloc ?_ _)); exact BK124.out)) : gb133 ≠ gb124)); clear BK121; clear BK124; clear HB; have BK121 := n0_; have BK124 := n1_; have HB := n2_; have BK133 := n3_; have GW133 := n4_; have GE133 := n5_; have NB121_133 := n6_; have NB133_121 := n7_; have NB124_133 := n8_; have NB133_124 := n9_; clear n0_ n1_ n2_ n3_ n4_ n5_ n6_ n7_ n8_ n9_; clear hb hbox hg; have hnb78 := NB133_121.out; have hnc78 := NB121_133.out; have hnb79 := NB133_124.out; have hnc79 := NB124_133.out; have hcz80_0 : w77.cell? ⟨gb133, 0, none⟩ = some (.int .i64 0) := (blk_cell BK133.out 0).trans rfl; have hcz80_1 : w77.cell? ⟨gb133, 1, none⟩ = some (.int .i64 0) := (blk_cell BK133.out 1).trans rfl; have hfz80_0 := blk_frozen BK133.out 0; have hfz80_1 := blk_frozen BK133.out 1; have hcz81_0 : w77.cell? ⟨gb121, 0, none⟩ = some (.int .i64 x122000_1) := (blk_cell BK121.out 0).trans rfl; have hcz81_1 : w77.cell? ⟨gb121, 1, none⟩ = some (.int .i64 x122001_1) := (blk_cell BK121.out 1).trans rfl; have hfz81_0 := blk_frozen BK121.out 0; have hfz81_1 := blk_frozen BK121.out 1; have hcz82_0 : w77.cell? ⟨gb124, 0, none⟩ = some (.int .i64 ((rd_T36 l0 x19_1).f0)) := (blk_cell BK124.out 0).trans rfl; have hcz82_1 : w77.cell? ⟨gb124, 1, none⟩ = some (.int .i64 ((rd_T36 l0 x19_1).f1)) := (blk_cell BK124.out 1).trans rfl; have hcz82_2 : w77.cell? ⟨gb124, 2, none⟩ = some (.bool false) := (blk_cell BK124.out 2).trans rfl; have hfz82_0 := blk_frozen BK124.out 0; have hfz82_1 := blk_frozen BK124.out 1; have hfz82_2 := blk_frozen BK124.out 2))
                            go_ret
                            exact ⟨by first | rfl | (simp [errW_none, errW_some] <;> rfl) | (simp [*, errW_none, errW_some] <;> rfl), by repeat (first | (with_reducible first | exact HB.out | apply below_alloc | apply pw_below_drewN | apply below_drew1 | refine below_set ?_ GE121.out | refine below_set ?_ GE124.out | refine below_set ?_ GE133.out) | exact HB.out)⟩
                          · rw [if_neg c72] at H
                            have c72b0 : decide (x7_1 ≤ (wrap64 (x4_1 + (Int.tmod (wrap64 ((Int.tmod ((rd_T36 l0 x19_1).f1) 20) + 20)) 20)))) = false := decide_eq_false c72
                            clear c72
                            have H' := Aside0.mk H
                            clear H
                            have hnb83 := NB121_124.out
                            have hnc83 := NB124_121.out
                            have hcz84_0 : w13.cell? ⟨gb121, 0, none⟩ = some (.int .i64 x122000_1) := (blk_cell BK121.out 0).trans rfl
                            have hcz84_1 : w13.cell? ⟨gb121, 1, none⟩ = some (.int .i64 x122001_1) := (blk_cell BK121.out 1).trans rfl
                            have hfz84_0 := blk_frozen BK121.out 0
                            have hfz84_1 := blk_frozen BK121.out 1
                            have hcz85_0 : w13.cell? ⟨gb124, 0, none⟩ = some (.int .i64 0) := (blk_cell BK124.out 0).trans rfl
                            have hcz85_1 : w13.cell? ⟨gb124, 1, none⟩ = some (.int .i64 0) := (blk_cell BK124.out 1).trans rfl
                            have hcz85_2 : w13.cell? ⟨gb124, 2, none⟩ = some (.bool false) := (blk_cell BK124.out 2).trans rfl
                            have hfz85_0 := blk_frozen BK124.out 0
                            have hfz85_1 := blk_frozen BK124.out 1
                            have hfz85_2 := blk_frozen BK124.out 2
                            go_wp2_with (first | ((with_reducible refine gate_callee (f := 6) rfl ?_); refine goesL_ (some 71) rfl rfl Try.func6 (by kernel_rfl) rfl #[.agg #[.int .i64 x122000_1, .int .i64 x122001_1], .bool false, .int .i64 (wrap64 (x4_1 + (Int.tmod (wrap64 ((Int.tmod ((rd_T36 l0 x19_1).f1) 20) + 20)) 20)))] rfl (by (try simp only [List.map_toArray, List.map_cons, List.map_nil]); first | done | rfl | (simp only [List.length_drop, List.length_take]; rfl)) ?_; (with_reducible refine (ask_Answer.calls x122000_1 x122001_1 false (wrap64 (x4_1 + (Int.tmod (wrap64 ((Int.tmod ((rd_T36 l0 x19_1).f1) 20) + 20)) 20))) t130 t131 t132 _ A35.out).mono ?_); rintro e w86 ⟨rfl, hb⟩; refine ⟨_, rfl, ?_⟩; have n0_ := Aside0.mk (blk_below (g := gb121) (o := .cells #[.int .i64 x122000_1, .int .i64 x122001_1] 23 (0, 0)) (by (with_reducible repeat (first | refine blk_drewN ?_ _ | refine blk_drew ?_ | refine blk_alloc ?_ _)); refine blk_far ?_ NB121_124.out _; (with_reducible repeat (first | refine blk_drewN ?_ _ | refine blk_drew ?_ | refine blk_alloc ?_ _)); refine blk_far ?_ NB121_124.out _; (with_reducible repeat (first | refine blk_drewN ?_ _ | refine blk_drew ?_ | refine blk_alloc ?_ _)); refine blk_far ?_ NB121_124.out _; (with_reducible repeat (first | refine blk_drewN ?_ _ | refine blk_drew ?_ | refine blk_alloc ?_ _)); exact BK121.out) hb); have n1_ := Aside0.mk (blk_below (g := gb124) (o := .cells #[.int .i64 ((rd_T36 l0 x19_1).f0), .int .i64 ((rd_T36 l0 x19_1).f1), .bool false] 36 (0, 0)) (by (with_reducible repeat (first | refine blk_drewN ?_ _ | refine blk_drew ?_ | refine blk_alloc ?_ _)); refine blk_put (cs := #[.int .i64 ((rd_T36 l0 x19_1).f0), .int .i64 ((rd_T36 l0 x19_1).f1), .bool false]) ?_ 2 _ rfl; (with_reducible repeat (first | refine blk_drewN ?_ _ | refine blk_drew ?_ | refine blk_alloc ?_ _)); refine blk_put (cs := #[.int .i64 ((rd_T36 l0 x19_1).f0), .int .i64 0, .bool false]) ?_ 1 _ rfl; (with_reducible repeat (first | refine blk_drewN ?_ _ | refine blk_drew ?_ | refine blk_alloc ?_ _)); refine blk_put (cs := #[.int .i64 0, .int .i64 0, .bool false]) ?_ 0 _ rfl; (with_reducible repeat (first | refine blk_drewN ?_ _ | refine blk_drew ?_ | refine blk_alloc ?_ _)); exact BK124.out) hb); have n2_ := Aside0.mk (below_step (by repeat (first | (with_reducible first | exact HB.out | apply below_alloc | apply pw_below_drewN | apply below_drew1 | refine below_set ?_ GE121.out | refine below_set ?_ GE124.out) | exact HB.out)) hb); clear BK121; clear BK124; clear HB; have BK121 := n0_; have BK124 := n1_; have HB := n2_; clear n0_ n1_ n2_; (try clear hb); (try clear hb2); (try clear hk); (try clear hi)) | ((with_reducible refine gate_dst (N := 12) rfl ?_); refine box_event ?hg (N := 12) ?hd (cs := #[.int .i64 0, .int .i64 0]) (t := 23) ?hr ?_; (case hd => rfl); (case hg => rfl); (case hr => first | (go_simp; done) | (go_simp; rfl)); intro gb133 hg w87 hbox hb; have n0_ := Aside0.mk (blk_below (g := gb121) (o := .cells #[.int .i64 x122000_1, .int .i64 x122001_1] 23 (0, 0)) (by (with_reducible repeat (first | refine blk_drewN ?_ _ | refine blk_drew ?_ | refine blk_alloc ?_ _)); exact BK121.out) hb); have n1_ := Aside0.mk (blk_below (g := gb124) (o := .cells #[.int .i64 ((rd_T36 l0 x19_1).f0), .int .i64 ((rd_T36 l0 x19_1).f1), .bool false] 36 (0, 0)) (by (with_reducible repeat (first | refine blk_drewN ?_ _ | refine blk_drew ?_ | refine blk_alloc ?_ _)); exact BK124.out) hb); have n2_ := Aside0.mk (below_step (by repeat (first | (with_reducible first | exact HB.out | apply below_alloc | apply pw_below_drewN | apply below_drew1 | refine below_set ?_ GE121.out | refine below_set ?_ GE124.out) | exact HB.out)) hb); have n3_ := Aside0.mk (hbox); have n4_ := Aside0.mk ((by rw [hg]; exact (below_size (by repeat (first | (with_reducible first | exact HB.out | apply below_alloc | apply pw_below_drewN | apply below_drew1 | refine below_set ?_ GE121.out | refine below_set ?_ GE124.out) | exact HB.out))) : w.heap.size ≤ gb133)); have n5_ := Aside0.mk ((by rw [hg]; exact (below_size (by repeat (first | (with_reducible first | exact HB.out | apply below_alloc | apply pw_below_drewN | apply below_drew1 | refine below_set ?_ GE121.out | refine below_set ?_ GE124.out) | exact HB.out))) : w.heap.size ≤ gb133)); have n6_ := Aside0.mk ((by rw [hg]; exact Nat.ne_of_lt (blk_lt (g := gb121) (o := .cells #[.int .i64 x122000_1, .int .i64 x122001_1] 23 (0, 0)) (by (with_reducible repeat (first | refine blk_drewN ?_ _ | refine blk_drew ?_ | refine blk_alloc ?_ _)); exact BK121.out)) : gb121 ≠ gb133)); have n7_ := Aside0.mk ((by rw [hg]; exact Nat.ne_of_gt (blk_lt (g := gb121) (o := .cells #[.int .i64 x122000_1, .int .i64 x122001_1] 23 (0, 0)) (by (with_reducible repeat (first | refine blk_drewN ?_ _ | refine blk_drew ?_ | refine blk_alloc ?_ _)); exact BK121.out)) : gb133 ≠ gb121)); have n8_ := Aside0.mk ((by rw [hg]; exact Nat.ne_of_lt (blk_lt (g := gb124) (o := .cells #[.int .i64 ((rd_T36 l0 x19_1).f0), .int .i64 ((rd_T36 l0 x19_1).f1), .bool false] 36 (0, 0)) (by (with_reducible repeat (first | refine blk_drewN ?_ _ | refine blk_drew ?_ | refine blk_alloc ?_ _)); exact BK124.out)) : gb124 ≠ gb133)); have n9_ := Aside0.mk ((by rw [hg]; exact Nat.ne_of_gt (blk_lt (g := gb124) (o := .cells #[.int .i64 ((rd_T36 l0 x19_1).f0), .int .i64 ((rd_T36 l0 x19_1).f1), .bool false] 36 (0, 0)) (by (with_reducible repeat (first | refine blk_drewN ?_ _ | refine blk_drew ?_ | refine blk_alloc ?_ _)); exact BK124.out)) : gb133 ≠ gb124)); clear BK121; clear BK124; clear HB; have BK121 := n0_; have BK124 := n1_; have HB := n2_; have BK133 := n3_; have GW133 := n4_; have GE133 := n5_; have NB121_133 := n6_; have NB133_121 := n7_; have NB124_133 := n8_; have NB133_124 := n9_; clear n0_ n1_ n2_ n3_ n4_ n5_ n6_ n7_ n8_ n9_; clear hb hbox hg; have hnb88 := NB133_121.out; have hnc88 := NB121_133.out; have hnb89 := NB133_124.out; have hnc89 := NB124_133.out; have hcz90_0 : w87.cell? ⟨gb133, 0, none⟩ = some (.int .i64 0) := (blk_cell BK133.out 0).trans rfl; have hcz90_1 : w87.cell? ⟨gb133, 1, none⟩ = some (.int .i64 0) := (blk_cell BK133.out 1).trans rfl; have hfz90_0 := blk_frozen BK133.out 0; have hfz90_1 := blk_frozen BK133.out 1; have hcz91_0 : w87.cell? ⟨gb121, 0, none⟩ = some (.int .i64 x122000_1) := (blk_cell BK121.out 0).trans rfl; have hcz91_1 : w87.cell? ⟨gb121, 1, none⟩ = some (.int .i64 x122001_1) := (blk_cell BK121.out 1).trans rfl; have hfz91_0 := blk_frozen BK121.out 0; have hfz91_1 := blk_frozen BK121.out 1; have hcz92_0 : w87.cell? ⟨gb124, 0, none⟩ = some (.int .i64 ((rd_T36 l0 x19_1).f0)) := (blk_cell BK124.out 0).trans rfl; have hcz92_1 : w87.cell? ⟨gb124, 1, none⟩ = some (.int .i64 ((rd_T36 l0 x19_1).f1)) := (blk_cell BK124.out 1).trans rfl; have hcz92_2 : w87.cell? ⟨gb124, 2, none⟩ = some (.bool false) := (blk_cell BK124.out 2).trans rfl; have hfz92_0 := blk_frozen BK124.out 0; have hfz92_1 := blk_frozen BK124.out 1; have hfz92_2 := blk_frozen BK124.out 2))
                            go_meet
                            case rel => exact ⟨_, (x5_1), (x6_1), (x7_1), (t130), (t131), (by first | rfl | (simp; done) | (simp [*]; done)), (by first | rfl | (simp; done) | (simp [*]; done)), (by first | rfl | (simp; done) | (simp [*]; done)), H', ⟨by have := HK1.out; first | omega | exact Nat.le_refl _⟩, ⟨by (with_reducible repeat (first | refine blk_drewN ?_ _ | refine blk_drew ?_ | refine blk_alloc ?_ _)); refine blk_put (cs := #[.int .i64 t130, .int .i64 x122001_1]) ?_ 1 _ rfl; (with_reducible repeat (first | refine blk_drewN ?_ _ | refine blk_drew ?_ | refine blk_alloc ?_ _)); refine blk_put (cs := #[.int .i64 x122000_1, .int .i64 x122001_1]) ?_ 0 _ rfl; (with_reducible repeat (first | refine blk_drewN ?_ _ | refine blk_drew ?_ | refine blk_alloc ?_ _)); refine blk_far ?_ NB121_133.out _; (with_reducible repeat (first | refine blk_drewN ?_ _ | refine blk_drew ?_ | refine blk_alloc ?_ _)); refine blk_far ?_ NB121_133.out _; (with_reducible repeat (first | refine blk_drewN ?_ _ | refine blk_drew ?_ | refine blk_alloc ?_ _)); (first | exact BK121.out | (simp only [hbq37, hbq37]; exact BK121.out))⟩, ⟨by (with_reducible repeat (first | refine blk_drewN ?_ _ | refine blk_drew ?_ | refine blk_alloc ?_ _)); refine blk_far ?_ NB124_121.out _; (with_reducible repeat (first | refine blk_drewN ?_ _ | refine blk_drew ?_ | refine blk_alloc ?_ _)); refine blk_far ?_ NB124_121.out _; (with_reducible repeat (first | refine blk_drewN ?_ _ | refine blk_drew ?_ | refine blk_alloc ?_ _)); refine blk_far ?_ NB124_133.out _; (with_reducible repeat (first | refine blk_drewN ?_ _ | refine blk_drew ?_ | refine blk_alloc ?_ _)); refine blk_far ?_ NB124_133.out _; (with_reducible repeat (first | refine blk_drewN ?_ _ | refine blk_drew ?_ | refine blk_alloc ?_ _)); (first | exact BK124.out | (simp only [hbq37, hbq37]; exact BK124.out))⟩, ⟨by repeat (first | (with_reducible first | exact HB.out | apply below_alloc | apply pw_below_drewN | apply below_drew1 | refine below_set ?_ GE121.out | refine below_set ?_ GE124.out | refine below_set ?_ GE133.out) | exact HB.out)⟩⟩
                        · rw [if_neg c71] at H
                          have c71b0 : (x5_1 == 1) = false := beq_eq_false_iff_ne.mpr c71
                          have c71b1 : (x5_1 != 1) = true := bne_iff_ne.mpr c71
                          obtain rfl := Option.some.inj H
                          have hnb93 := NB121_124.out
                          have hnc93 := NB124_121.out
                          have hcz94_0 : w13.cell? ⟨gb121, 0, none⟩ = some (.int .i64 x122000_1) := (blk_cell BK121.out 0).trans rfl
                          have hcz94_1 : w13.cell? ⟨gb121, 1, none⟩ = some (.int .i64 x122001_1) := (blk_cell BK121.out 1).trans rfl
                          have hfz94_0 := blk_frozen BK121.out 0
                          have hfz94_1 := blk_frozen BK121.out 1
                          have hcz95_0 : w13.cell? ⟨gb124, 0, none⟩ = some (.int .i64 0) := (blk_cell BK124.out 0).trans rfl
                          have hcz95_1 : w13.cell? ⟨gb124, 1, none⟩ = some (.int .i64 0) := (blk_cell BK124.out 1).trans rfl
                          have hcz95_2 : w13.cell? ⟨gb124, 2, none⟩ = some (.bool false) := (blk_cell BK124.out 2).trans rfl
                          have hfz95_0 := blk_frozen BK124.out 0
                          have hfz95_1 := blk_frozen BK124.out 1
                          have hfz95_2 := blk_frozen BK124.out 2
                          go_wp2_with (first | ((with_reducible refine gate_callee (f := 6) rfl ?_); refine goesL_ (some 71) rfl rfl Try.func6 (by kernel_rfl) rfl #[.agg #[.int .i64 x122000_1, .int .i64 x122001_1], .bool false, .int .i64 (wrap64 (x4_1 + (Int.tmod (wrap64 ((Int.tmod ((rd_T36 l0 x19_1).f1) 20) + 20)) 20)))] rfl (by (try simp only [List.map_toArray, List.map_cons, List.map_nil]); first | done | rfl | (simp only [List.length_drop, List.length_take]; rfl)) ?_; (with_reducible refine (ask_Answer.calls x122000_1 x122001_1 false (wrap64 (x4_1 + (Int.tmod (wrap64 ((Int.tmod ((rd_T36 l0 x19_1).f1) 20) + 20)) 20))) t130 t131 t132 _ A35.out).mono ?_); rintro e w96 ⟨rfl, hb⟩; refine ⟨_, rfl, ?_⟩; have n0_ := Aside0.mk (blk_below (g := gb121) (o := .cells #[.int .i64 x122000_1, .int .i64 x122001_1] 23 (0, 0)) (by (with_reducible repeat (first | refine blk_drewN ?_ _ | refine blk_drew ?_ | refine blk_alloc ?_ _)); refine blk_far ?_ NB121_124.out _; (with_reducible repeat (first | refine blk_drewN ?_ _ | refine blk_drew ?_ | refine blk_alloc ?_ _)); refine blk_far ?_ NB121_124.out _; (with_reducible repeat (first | refine blk_drewN ?_ _ | refine blk_drew ?_ | refine blk_alloc ?_ _)); refine blk_far ?_ NB121_124.out _; (with_reducible repeat (first | refine blk_drewN ?_ _ | refine blk_drew ?_ | refine blk_alloc ?_ _)); exact BK121.out) hb); have n1_ := Aside0.mk (blk_below (g := gb124) (o := .cells #[.int .i64 ((rd_T36 l0 x19_1).f0), .int .i64 ((rd_T36 l0 x19_1).f1), .bool false] 36 (0, 0)) (by (with_reducible repeat (first | refine blk_drewN ?_ _ | refine blk_drew ?_ | refine blk_alloc ?_ _)); refine blk_put (cs := #[.int .i64 ((rd_T36 l0 x19_1).f0), .int .i64 ((rd_T36 l0 x19_1).f1), .bool false]) ?_ 2 _ rfl; (with_reducible repeat (first | refine blk_drewN ?_ _ | refine blk_drew ?_ | refine blk_alloc ?_ _)); refine blk_put (cs := #[.int .i64 ((rd_T36 l0 x19_1).f0), .int .i64 0, .bool false]) ?_ 1 _ rfl; (with_reducible repeat (first | refine blk_drewN ?_ _ | refine blk_drew ?_ | refine blk_alloc ?_ _)); refine blk_put (cs := #[.int .i64 0, .int .i64 0, .bool false]) ?_ 0 _ rfl; (with_reducible repeat (first | refine blk_drewN ?_ _ | refine blk_drew ?_ | refine blk_alloc ?_ _)); exact BK124.out) hb); have n2_ := Aside0.mk (below_step (by repeat (first | (with_reducible first | exact HB.out | apply below_alloc | apply pw_below_drewN | apply below_drew1 | refine below_set ?_ GE121.out | refine below_set ?_ GE124.out) | exact HB.out)) hb); clear BK121; clear BK124; clear HB; have BK121 := n0_; have BK124 := n1_; have HB := n2_; clear n0_ n1_ n2_; (try clear hb); (try clear hb2); (try clear hk); (try clear hi)) | ((with_reducible refine gate_dst (N := 12) rfl ?_); refine box_event ?hg (N := 12) ?hd (cs := #[.int .i64 0, .int .i64 0]) (t := 23) ?hr ?_; (case hd => rfl); (case hg => rfl); (case hr => first | (go_simp; done) | (go_simp; rfl)); intro gb133 hg w97 hbox hb; have n0_ := Aside0.mk (blk_below (g := gb121) (o := .cells #[.int .i64 x122000_1, .int .i64 x122001_1] 23 (0, 0)) (by (with_reducible repeat (first | refine blk_drewN ?_ _ | refine blk_drew ?_ | refine blk_alloc ?_ _)); exact BK121.out) hb); have n1_ := Aside0.mk (blk_below (g := gb124) (o := .cells #[.int .i64 ((rd_T36 l0 x19_1).f0), .int .i64 ((rd_T36 l0 x19_1).f1), .bool false] 36 (0, 0)) (by (with_reducible repeat (first | refine blk_drewN ?_ _ | refine blk_drew ?_ | refine blk_alloc ?_ _)); exact BK124.out) hb); have n2_ := Aside0.mk (below_step (by repeat (first | (with_reducible first | exact HB.out | apply below_alloc | apply pw_below_drewN | apply below_drew1 | refine below_set ?_ GE121.out | refine below_set ?_ GE124.out) | exact HB.out)) hb); have n3_ := Aside0.mk (hbox); have n4_ := Aside0.mk ((by rw [hg]; exact (below_size (by repeat (first | (with_reducible first | exact HB.out | apply below_alloc | apply pw_below_drewN | apply below_drew1 | refine below_set ?_ GE121.out | refine below_set ?_ GE124.out) | exact HB.out))) : w.heap.size ≤ gb133)); have n5_ := Aside0.mk ((by rw [hg]; exact (below_size (by repeat (first | (with_reducible first | exact HB.out | apply below_alloc | apply pw_below_drewN | apply below_drew1 | refine below_set ?_ GE121.out | refine below_set ?_ GE124.out) | exact HB.out))) : w.heap.size ≤ gb133)); have n6_ := Aside0.mk ((by rw [hg]; exact Nat.ne_of_lt (blk_lt (g := gb121) (o := .cells #[.int .i64 x122000_1, .int .i64 x122001_1] 23 (0, 0)) (by (with_reducible repeat (first | refine blk_drewN ?_ _ | refine blk_drew ?_ | refine blk_alloc ?_ _)); exact BK121.out)) : gb121 ≠ gb133)); have n7_ := Aside0.mk ((by rw [hg]; exact Nat.ne_of_gt (blk_lt (g := gb121) (o := .cells #[.int .i64 x122000_1, .int .i64 x122001_1] 23 (0, 0)) (by (with_reducible repeat (first | refine blk_drewN ?_ _ | refine blk_drew ?_ | refine blk_alloc ?_ _)); exact BK121.out)) : gb133 ≠ gb121)); have n8_ := Aside0.mk ((by rw [hg]; exact Nat.ne_of_lt (blk_lt (g := gb124) (o := .cells #[.int .i64 ((rd_T36 l0 x19_1).f0), .int .i64 ((rd_T36 l0 x19_1).f1), .bool false] 36 (0, 0)) (by (with_reducible repeat (first | refine blk_drewN ?_ _ | refine blk_drew ?_ | refine blk_alloc ?_ _)); exact BK124.out)) : gb124 ≠ gb133)); have n9_ := Aside0.mk ((by rw [hg]; exact Nat.ne_of_gt (blk_lt (g := gb124) (o := .cells #[.int .i64 ((rd_T36 l0 x19_1).f0), .int .i64 ((rd_T36 l0 x19_1).f1), .bool false] 36 (0, 0)) (by (with_reducible repeat (first | refine blk_drewN ?_ _ | refine blk_drew ?_ | refine blk_alloc ?_ _)); exact BK124.out)) : gb133 ≠ gb124)); clear BK121; clear BK124; clear HB; have BK121 := n0_; have BK124 := n1_; have HB := n2_; have BK133 := n3_; have GW133 := n4_; have GE133 := n5_; have NB121_133 := n6_; have NB133_121 := n7_; have NB124_133 := n8_; have NB133_124 := n9_; clear n0_ n1_ n2_ n3_ n4_ n5_ n6_ n7_ n8_ n9_; clear hb hbox hg; have hnb98 := NB133_121.out; have hnc98 := NB121_133.out; have hnb99 := NB133_124.out; have hnc99 := NB124_133.out; have hcz100_0 : w97.cell? ⟨gb133, 0, none⟩ = some (.int .i64 0) := (blk_cell BK133.out 0).trans rfl; have hcz100_1 : w97.cell? ⟨gb133, 1, none⟩ = some (.int .i64 0) := (blk_cell BK133.out 1).trans rfl; have hfz100_0 := blk_frozen BK133.out 0; have hfz100_1 := blk_frozen BK133.out 1; have hcz101_0 : w97.cell? ⟨gb121, 0, none⟩ = some (.int .i64 x122000_1) := (blk_cell BK121.out 0).trans rfl; have hcz101_1 : w97.cell? ⟨gb121, 1, none⟩ = some (.int .i64 x122001_1) := (blk_cell BK121.out 1).trans rfl; have hfz101_0 := blk_frozen BK121.out 0; have hfz101_1 := blk_frozen BK121.out 1; have hcz102_0 : w97.cell? ⟨gb124, 0, none⟩ = some (.int .i64 ((rd_T36 l0 x19_1).f0)) := (blk_cell BK124.out 0).trans rfl; have hcz102_1 : w97.cell? ⟨gb124, 1, none⟩ = some (.int .i64 ((rd_T36 l0 x19_1).f1)) := (blk_cell BK124.out 1).trans rfl; have hcz102_2 : w97.cell? ⟨gb124, 2, none⟩ = some (.bool false) := (blk_cell BK124.out 2).trans rfl; have hfz102_0 := blk_frozen BK124.out 0; have hfz102_1 := blk_frozen BK124.out 1; have hfz102_2 := blk_frozen BK124.out 2))
                          go_ret
                          exact ⟨by first | rfl | (simp [errW_none, errW_some] <;> rfl) | (simp [*, errW_none, errW_some] <;> rfl), by repeat (first | (with_reducible first | exact HB.out | apply below_alloc | apply pw_below_drewN | apply below_drew1 | refine below_set ?_ GE121.out | refine below_set ?_ GE124.out | refine below_set ?_ GE133.out) | exact HB.out)⟩
                    · rw [if_neg c36] at H
                      have c36b0 : (t132 == 0) = false := beq_eq_false_iff_ne.mpr c36
                      have c36b1 : (t132 != 0) = true := bne_iff_ne.mpr c36
                      have H' := Aside0.mk H
                      clear H
                      have hnb103 := NB121_124.out
                      have hnc103 := NB124_121.out
                      have hcz104_0 : w13.cell? ⟨gb121, 0, none⟩ = some (.int .i64 x122000_1) := (blk_cell BK121.out 0).trans rfl
                      have hcz104_1 : w13.cell? ⟨gb121, 1, none⟩ = some (.int .i64 x122001_1) := (blk_cell BK121.out 1).trans rfl
                      have hfz104_0 := blk_frozen BK121.out 0
                      have hfz104_1 := blk_frozen BK121.out 1
                      have hcz105_0 : w13.cell? ⟨gb124, 0, none⟩ = some (.int .i64 0) := (blk_cell BK124.out 0).trans rfl
                      have hcz105_1 : w13.cell? ⟨gb124, 1, none⟩ = some (.int .i64 0) := (blk_cell BK124.out 1).trans rfl
                      have hcz105_2 : w13.cell? ⟨gb124, 2, none⟩ = some (.bool false) := (blk_cell BK124.out 2).trans rfl
                      have hfz105_0 := blk_frozen BK124.out 0
                      have hfz105_1 := blk_frozen BK124.out 1
                      have hfz105_2 := blk_frozen BK124.out 2
                      go_wp2_with (first | ((with_reducible refine gate_callee (f := 6) rfl ?_); refine goesL_ (some 71) rfl rfl Try.func6 (by kernel_rfl) rfl #[.agg #[.int .i64 x122000_1, .int .i64 x122001_1], .bool ((rd_T36 l0 x19_1).f2), .int .i64 (wrap64 (x4_1 + (Int.tmod (wrap64 ((Int.tmod ((rd_T36 l0 x19_1).f1) 20) + 20)) 20)))] rfl (by (try simp only [List.map_toArray, List.map_cons, List.map_nil]); first | done | rfl | (simp only [List.length_drop, List.length_take]; rfl)) ?_; (with_reducible refine (ask_Answer.calls x122000_1 x122001_1 ((rd_T36 l0 x19_1).f2) (wrap64 (x4_1 + (Int.tmod (wrap64 ((Int.tmod ((rd_T36 l0 x19_1).f1) 20) + 20)) 20))) t130 t131 t132 _ A35.out).mono ?_); rintro e w106 ⟨rfl, hb⟩; refine ⟨_, rfl, ?_⟩; have n0_ := Aside0.mk (blk_below (g := gb121) (o := .cells #[.int .i64 x122000_1, .int .i64 x122001_1] 23 (0, 0)) (by (with_reducible repeat (first | refine blk_drewN ?_ _ | refine blk_drew ?_ | refine blk_alloc ?_ _)); refine blk_far ?_ NB121_124.out _; (with_reducible repeat (first | refine blk_drewN ?_ _ | refine blk_drew ?_ | refine blk_alloc ?_ _)); refine blk_far ?_ NB121_124.out _; (with_reducible repeat (first | refine blk_drewN ?_ _ | refine blk_drew ?_ | refine blk_alloc ?_ _)); refine blk_far ?_ NB121_124.out _; (with_reducible repeat (first | refine blk_drewN ?_ _ | refine blk_drew ?_ | refine blk_alloc ?_ _)); exact BK121.out) hb); have n1_ := Aside0.mk (blk_below (g := gb124) (o := .cells #[.int .i64 ((rd_T36 l0 x19_1).f0), .int .i64 ((rd_T36 l0 x19_1).f1), .bool ((rd_T36 l0 x19_1).f2)] 36 (0, 0)) (by (with_reducible repeat (first | refine blk_drewN ?_ _ | refine blk_drew ?_ | refine blk_alloc ?_ _)); refine blk_put (cs := #[.int .i64 ((rd_T36 l0 x19_1).f0), .int .i64 ((rd_T36 l0 x19_1).f1), .bool false]) ?_ 2 _ rfl; (with_reducible repeat (first | refine blk_drewN ?_ _ | refine blk_drew ?_ | refine blk_alloc ?_ _)); refine blk_put (cs := #[.int .i64 ((rd_T36 l0 x19_1).f0), .int .i64 0, .bool false]) ?_ 1 _ rfl; (with_reducible repeat (first | refine blk_drewN ?_ _ | refine blk_drew ?_ | refine blk_alloc ?_ _)); refine blk_put (cs := #[.int .i64 0, .int .i64 0, .bool false]) ?_ 0 _ rfl; (with_reducible repeat (first | refine blk_drewN ?_ _ | refine blk_drew ?_ | refine blk_alloc ?_ _)); exact BK124.out) hb); have n2_ := Aside0.mk (below_step (by repeat (first | (with_reducible first | exact HB.out | apply below_alloc | apply pw_below_drewN | apply below_drew1 | refine below_set ?_ GE121.out | refine below_set ?_ GE124.out) | exact HB.out)) hb); clear BK121; clear BK124; clear HB; have BK121 := n0_; have BK124 := n1_; have HB := n2_; clear n0_ n1_ n2_; (try clear hb); (try clear hb2); (try clear hk); (try clear hi)) | ((with_reducible refine gate_dst (N := 12) rfl ?_); refine box_event ?hg (N := 12) ?hd (cs := #[.int .i64 0, .int .i64 0]) (t := 23) ?hr ?_; (case hd => rfl); (case hg => rfl); (case hr => first | (go_simp; done) | (go_simp; rfl)); intro gb133 hg w107 hbox hb; have n0_ := Aside0.mk (blk_below (g := gb121) (o := .cells #[.int .i64 x122000_1, .int .i64 x122001_1] 23 (0, 0)) (by (with_reducible repeat (first | refine blk_drewN ?_ _ | refine blk_drew ?_ | refine blk_alloc ?_ _)); exact BK121.out) hb); have n1_ := Aside0.mk (blk_below (g := gb124) (o := .cells #[.int .i64 ((rd_T36 l0 x19_1).f0), .int .i64 ((rd_T36 l0 x19_1).f1), .bool ((rd_T36 l0 x19_1).f2)] 36 (0, 0)) (by (with_reducible repeat (first | refine blk_drewN ?_ _ | refine blk_drew ?_ | refine blk_alloc ?_ _)); exact BK124.out) hb); have n2_ := Aside0.mk (below_step (by repeat (first | (with_reducible first | exact HB.out | apply below_alloc | apply pw_below_drewN | apply below_drew1 | refine below_set ?_ GE121.out | refine below_set ?_ GE124.out) | exact HB.out)) hb); have n3_ := Aside0.mk (hbox); have n4_ := Aside0.mk ((by rw [hg]; exact (below_size (by repeat (first | (with_reducible first | exact HB.out | apply below_alloc | apply pw_below_drewN | apply below_drew1 | refine below_set ?_ GE121.out | refine below_set ?_ GE124.out) | exact HB.out))) : w.heap.size ≤ gb133)); have n5_ := Aside0.mk ((by rw [hg]; exact (below_size (by repeat (first | (with_reducible first | exact HB.out | apply below_alloc | apply pw_below_drewN | apply below_drew1 | refine below_set ?_ GE121.out | refine below_set ?_ GE124.out) | exact HB.out))) : w.heap.size ≤ gb133)); have n6_ := Aside0.mk ((by rw [hg]; exact Nat.ne_of_lt (blk_lt (g := gb121) (o := .cells #[.int .i64 x122000_1, .int .i64 x122001_1] 23 (0, 0)) (by (with_reducible repeat (first | refine blk_drewN ?_ _ | refine blk_drew ?_ | refine blk_alloc ?_ _)); exact BK121.out)) : gb121 ≠ gb133)); have n7_ := Aside0.mk ((by rw [hg]; exact Nat.ne_of_gt (blk_lt (g := gb121) (o := .cells #[.int .i64 x122000_1, .int .i64 x122001_1] 23 (0, 0)) (by (with_reducible repeat (first | refine blk_drewN ?_ _ | refine blk_drew ?_ | refine blk_alloc ?_ _)); exact BK121.out)) : gb133 ≠ gb121)); have n8_ := Aside0.mk ((by rw [hg]; exact Nat.ne_of_lt (blk_lt (g := gb124) (o := .cells #[.int .i64 ((rd_T36 l0 x19_1).f0), .int .i64 ((rd_T36 l0 x19_1).f1), .bool ((rd_T36 l0 x19_1).f2)] 36 (0, 0)) (by (with_reducible repeat (first | refine blk_drewN ?_ _ | refine blk_drew ?_ | refine blk_alloc ?_ _)); exact BK124.out)) : gb124 ≠ gb133)); have n9_ := Aside0.mk ((by rw [hg]; exact Nat.ne_of_gt (blk_lt (g := gb124) (o := .cells #[.int .i64 ((rd_T36 l0 x19_1).f0), .int .i64 ((rd_T36 l0 x19_1).f1), .bool ((rd_T36 l0 x19_1).f2)] 36 (0, 0)) (by (with_reducible repeat (first | refine blk_drewN ?_ _ | refine blk_drew ?_ | refine blk_alloc ?_ _)); exact BK124.out)) : gb133 ≠ gb124)); clear BK121; clear BK124; clear HB; have BK121 := n0_; have BK124 := n1_; have HB := n2_; have BK133 := n3_; have GW133 := n4_; have GE133 := n5_; have NB121_133 := n6_; have NB133_121 := n7_; have NB124_133 := n8_; have NB133_124 := n9_; clear n0_ n1_ n2_ n3_ n4_ n5_ n6_ n7_ n8_ n9_; clear hb hbox hg; have hnb108 := NB133_121.out; have hnc108 := NB121_133.out; have hnb109 := NB133_124.out; have hnc109 := NB124_133.out; have hcz110_0 : w107.cell? ⟨gb133, 0, none⟩ = some (.int .i64 0) := (blk_cell BK133.out 0).trans rfl; have hcz110_1 : w107.cell? ⟨gb133, 1, none⟩ = some (.int .i64 0) := (blk_cell BK133.out 1).trans rfl; have hfz110_0 := blk_frozen BK133.out 0; have hfz110_1 := blk_frozen BK133.out 1))
                      go_meet
                      case rel => exact ⟨_, (x5_1), (x6_1), (x7_1), (x122000_1), (x122001_1), (by first | rfl | (simp; done) | (simp [*]; done)), (by first | rfl | (simp; done) | (simp [*]; done)), (by first | rfl | (simp; done) | (simp [*]; done)), H', ⟨by have := HK1.out; first | omega | exact Nat.le_refl _⟩, ⟨by (with_reducible repeat (first | refine blk_drewN ?_ _ | refine blk_drew ?_ | refine blk_alloc ?_ _)); refine blk_far ?_ NB121_133.out _; (with_reducible repeat (first | refine blk_drewN ?_ _ | refine blk_drew ?_ | refine blk_alloc ?_ _)); refine blk_far ?_ NB121_133.out _; (with_reducible repeat (first | refine blk_drewN ?_ _ | refine blk_drew ?_ | refine blk_alloc ?_ _)); exact BK121.out⟩, ⟨by (with_reducible repeat (first | refine blk_drewN ?_ _ | refine blk_drew ?_ | refine blk_alloc ?_ _)); refine blk_far ?_ NB124_133.out _; (with_reducible repeat (first | refine blk_drewN ?_ _ | refine blk_drew ?_ | refine blk_alloc ?_ _)); refine blk_far ?_ NB124_133.out _; (with_reducible repeat (first | refine blk_drewN ?_ _ | refine blk_drew ?_ | refine blk_alloc ?_ _)); exact BK124.out⟩, ⟨by repeat (first | (with_reducible first | exact HB.out | apply below_alloc | apply pw_below_drewN | apply below_drew1 | refine below_set ?_ GE121.out | refine below_set ?_ GE124.out | refine below_set ?_ GE133.out) | exact HB.out)⟩⟩
                  · rw [if_neg c34] at H
                    have c34b0 : ((Int.tmod (wrap64 ((Int.tmod ((rd_T36 l0 x19_1).f0) 3) + 3)) 3) == 1) = false := beq_eq_false_iff_ne.mpr c34
                    have c34b1 : ((Int.tmod (wrap64 ((Int.tmod ((rd_T36 l0 x19_1).f0) 3) + 3)) 3) != 1) = true := bne_iff_ne.mpr c34
                    replace H := Option.bind_eq_some_iff.mp H
                    obtain ⟨⟨t134, t135, t136, t137⟩, A1110, H⟩ := H
                    replace H : (if t137 = 0 then (tarrylaw12_AskOnce.j1 k1 (wrap64 (x4_1 + (Int.tmod (wrap64 ((Int.tmod ((rd_T36 l0 x19_1).f1) 20) + 20)) 20))) x5_1 x6_1 x7_1 l0 (l0.length : Int) x19_1 t134 t135) else (some false)) = some r := H
                    have A111 := Aside0.mk A1110
                    clear A1110
                    by_cases c112 : t137 = 0
                    · rw [if_pos c112] at H
                      have c112b0 : (t137 == 0) = true := beq_iff_eq.mpr c112
                      have c112b1 : (t137 != 0) = false := bne_eq_false_iff_eq.mpr c112
                      clear c112
                      have H' := Aside0.mk H
                      clear H
                      have hnb113 := NB121_124.out
                      have hnc113 := NB124_121.out
                      have hcz114_0 : w13.cell? ⟨gb121, 0, none⟩ = some (.int .i64 x122000_1) := (blk_cell BK121.out 0).trans rfl
                      have hcz114_1 : w13.cell? ⟨gb121, 1, none⟩ = some (.int .i64 x122001_1) := (blk_cell BK121.out 1).trans rfl
                      have hfz114_0 := blk_frozen BK121.out 0
                      have hfz114_1 := blk_frozen BK121.out 1
                      go_wp2_with (first | ((with_reducible refine gate_callee (f := 7) rfl ?_); refine goesL_ (some 41) rfl rfl Try.func7 (by kernel_rfl) rfl #[.agg #[.int .i64 x122000_1, .int .i64 x122001_1], .int .i64 (wrap64 (x4_1 + (Int.tmod (wrap64 ((Int.tmod ((rd_T36 l0 x19_1).f1) 20) + 20)) 20)))] rfl (by (try simp only [List.map_toArray, List.map_cons, List.map_nil]); first | done | rfl | (simp only [List.length_drop, List.length_take]; rfl)) ?_; (with_reducible refine (ask_Lapse.calls x122000_1 x122001_1 (wrap64 (x4_1 + (Int.tmod (wrap64 ((Int.tmod ((rd_T36 l0 x19_1).f1) 20) + 20)) 20))) t134 t135 t136 t137 _ A111.out).mono ?_); rintro e w115 ⟨rfl, hb⟩; refine ⟨_, rfl, ?_⟩; have n0_ := Aside0.mk (blk_below (g := gb121) (o := .cells #[.int .i64 x122000_1, .int .i64 x122001_1] 23 (0, 0)) (by (with_reducible repeat (first | refine blk_drewN ?_ _ | refine blk_drew ?_ | refine blk_alloc ?_ _)); refine blk_far ?_ NB121_124.out _; (with_reducible repeat (first | refine blk_drewN ?_ _ | refine blk_drew ?_ | refine blk_alloc ?_ _)); refine blk_far ?_ NB121_124.out _; (with_reducible repeat (first | refine blk_drewN ?_ _ | refine blk_drew ?_ | refine blk_alloc ?_ _)); refine blk_far ?_ NB121_124.out _; (with_reducible repeat (first | refine blk_drewN ?_ _ | refine blk_drew ?_ | refine blk_alloc ?_ _)); exact BK121.out) hb); have n1_ := Aside0.mk (blk_below (g := gb124) (o := .cells #[.int .i64 ((rd_T36 l0 x19_1).f0), .int .i64 ((rd_T36 l0 x19_1).f1), .bool ((rd_T36 l0 x19_1).f2)] 36 (0, 0)) (by (with_reducible repeat (first | refine blk_drewN ?_ _ | refine blk_drew ?_ | refine blk_alloc ?_ _)); refine blk_put (cs := #[.int .i64 ((rd_T36 l0 x19_1).f0), .int .i64 ((rd_T36 l0 x19_1).f1), .bool false]) ?_ 2 _ rfl; (with_reducible repeat (first | refine blk_drewN ?_ _ | refine blk_drew ?_ | refine blk_alloc ?_ _)); refine blk_put (cs := #[.int .i64 ((rd_T36 l0 x19_1).f0), .int .i64 0, .bool false]) ?_ 1 _ rfl; (with_reducible repeat (first | refine blk_drewN ?_ _ | refine blk_drew ?_ | refine blk_alloc ?_ _)); refine blk_put (cs := #[.int .i64 0, .int .i64 0, .bool false]) ?_ 0 _ rfl; (with_reducible repeat (first | refine blk_drewN ?_ _ | refine blk_drew ?_ | refine blk_alloc ?_ _)); exact BK124.out) hb); have n2_ := Aside0.mk (below_step (by repeat (first | (with_reducible first | exact HB.out | apply below_alloc | apply pw_below_drewN | apply below_drew1 | refine below_set ?_ GE121.out | refine below_set ?_ GE124.out) | exact HB.out)) hb); clear BK121; clear BK124; clear HB; have BK121 := n0_; have BK124 := n1_; have HB := n2_; clear n0_ n1_ n2_; (try clear hb); (try clear hb2); (try clear hk); (try clear hi)) | ((with_reducible refine gate_dst (N := 14) rfl ?_); refine box_event ?hg (N := 14) ?hd (cs := #[.int .i64 0, .int .i64 0]) (t := 23) ?hr ?_; (case hd => rfl); (case hg => rfl); (case hr => first | (go_simp; done) | (go_simp; rfl)); intro gb138 hg w116 hbox hb; have n0_ := Aside0.mk (blk_below (g := gb121) (o := .cells #[.int .i64 x122000_1, .int .i64 x122001_1] 23 (0, 0)) (by (with_reducible repeat (first | refine blk_drewN ?_ _ | refine blk_drew ?_ | refine blk_alloc ?_ _)); exact BK121.out) hb); have n1_ := Aside0.mk (blk_below (g := gb124) (o := .cells #[.int .i64 ((rd_T36 l0 x19_1).f0), .int .i64 ((rd_T36 l0 x19_1).f1), .bool ((rd_T36 l0 x19_1).f2)] 36 (0, 0)) (by (with_reducible repeat (first | refine blk_drewN ?_ _ | refine blk_drew ?_ | refine blk_alloc ?_ _)); exact BK124.out) hb); have n2_ := Aside0.mk (below_step (by repeat (first | (with_reducible first | exact HB.out | apply below_alloc | apply pw_below_drewN | apply below_drew1 | refine below_set ?_ GE121.out | refine below_set ?_ GE124.out) | exact HB.out)) hb); have n3_ := Aside0.mk (hbox); have n4_ := Aside0.mk ((by rw [hg]; exact (below_size (by repeat (first | (with_reducible first | exact HB.out | apply below_alloc | apply pw_below_drewN | apply below_drew1 | refine below_set ?_ GE121.out | refine below_set ?_ GE124.out) | exact HB.out))) : w.heap.size ≤ gb138)); have n5_ := Aside0.mk ((by rw [hg]; exact (below_size (by repeat (first | (with_reducible first | exact HB.out | apply below_alloc | apply pw_below_drewN | apply below_drew1 | refine below_set ?_ GE121.out | refine below_set ?_ GE124.out) | exact HB.out))) : w.heap.size ≤ gb138)); have n6_ := Aside0.mk ((by rw [hg]; exact Nat.ne_of_lt (blk_lt (g := gb121) (o := .cells #[.int .i64 x122000_1, .int .i64 x122001_1] 23 (0, 0)) (by (with_reducible repeat (first | refine blk_drewN ?_ _ | refine blk_drew ?_ | refine blk_alloc ?_ _)); exact BK121.out)) : gb121 ≠ gb138)); have n7_ := Aside0.mk ((by rw [hg]; exact Nat.ne_of_gt (blk_lt (g := gb121) (o := .cells #[.int .i64 x122000_1, .int .i64 x122001_1] 23 (0, 0)) (by (with_reducible repeat (first | refine blk_drewN ?_ _ | refine blk_drew ?_ | refine blk_alloc ?_ _)); exact BK121.out)) : gb138 ≠ gb121)); have n8_ := Aside0.mk ((by rw [hg]; exact Nat.ne_of_lt (blk_lt (g := gb124) (o := .cells #[.int .i64 ((rd_T36 l0 x19_1).f0), .int .i64 ((rd_T36 l0 x19_1).f1), .bool ((rd_T36 l0 x19_1).f2)] 36 (0, 0)) (by (with_reducible repeat (first | refine blk_drewN ?_ _ | refine blk_drew ?_ | refine blk_alloc ?_ _)); exact BK124.out)) : gb124 ≠ gb138)); have n9_ := Aside0.mk ((by rw [hg]; exact Nat.ne_of_gt (blk_lt (g := gb124) (o := .cells #[.int .i64 ((rd_T36 l0 x19_1).f0), .int .i64 ((rd_T36 l0 x19_1).f1), .bool ((rd_T36 l0 x19_1).f2)] 36 (0, 0)) (by (with_reducible repeat (first | refine blk_drewN ?_ _ | refine blk_drew ?_ | refine blk_alloc ?_ _)); exact BK124.out)) : gb138 ≠ gb124)); clear BK121; clear BK124; clear HB; have BK121 := n0_; have BK124 := n1_; have HB := n2_; have BK138 := n3_; have GW138 := n4_; have GE138 := n5_; have NB121_138 := n6_; have NB138_121 := n7_; have NB124_138 := n8_; have NB138_124 := n9_; clear n0_ n1_ n2_ n3_ n4_ n5_ n6_ n7_ n8_ n9_; clear hb hbox hg; have hnb117 := NB138_121.out; have hnc117 := NB121_138.out; have hnb118 := NB138_124.out; have hnc118 := NB124_138.out; have hcz119_0 : w116.cell? ⟨gb138, 0, none⟩ = some (.int .i64 0) := (blk_cell BK138.out 0).trans rfl; have hcz119_1 : w116.cell? ⟨gb138, 1, none⟩ = some (.int .i64 0) := (blk_cell BK138.out 1).trans rfl; have hfz119_0 := blk_frozen BK138.out 0; have hfz119_1 := blk_frozen BK138.out 1; have hcz120_0 : w116.cell? ⟨gb121, 0, none⟩ = some (.int .i64 x122000_1) := (blk_cell BK121.out 0).trans rfl; have hcz120_1 : w116.cell? ⟨gb121, 1, none⟩ = some (.int .i64 x122001_1) := (blk_cell BK121.out 1).trans rfl; have hfz120_0 := blk_frozen BK121.out 0; have hfz120_1 := blk_frozen BK121.out 1))
                      go_meet
                      case rel => exact ⟨_, (x5_1), (x6_1), (x7_1), (t134), (t135), (by first | rfl | (simp; done) | (simp [*]; done)), (by first | rfl | (simp; done) | (simp [*]; done)), (by first | rfl | (simp; done) | (simp [*]; done)), H', ⟨by have := HK1.out; first | omega | exact Nat.le_refl _⟩, ⟨by (with_reducible repeat (first | refine blk_drewN ?_ _ | refine blk_drew ?_ | refine blk_alloc ?_ _)); refine blk_put (cs := #[.int .i64 t134, .int .i64 x122001_1]) ?_ 1 _ rfl; (with_reducible repeat (first | refine blk_drewN ?_ _ | refine blk_drew ?_ | refine blk_alloc ?_ _)); refine blk_put (cs := #[.int .i64 x122000_1, .int .i64 x122001_1]) ?_ 0 _ rfl; (with_reducible repeat (first | refine blk_drewN ?_ _ | refine blk_drew ?_ | refine blk_alloc ?_ _)); refine blk_far ?_ NB121_138.out _; (with_reducible repeat (first | refine blk_drewN ?_ _ | refine blk_drew ?_ | refine blk_alloc ?_ _)); refine blk_far ?_ NB121_138.out _; (with_reducible repeat (first | refine blk_drewN ?_ _ | refine blk_drew ?_ | refine blk_alloc ?_ _)); exact BK121.out⟩, ⟨by (with_reducible repeat (first | refine blk_drewN ?_ _ | refine blk_drew ?_ | refine blk_alloc ?_ _)); refine blk_far ?_ NB124_121.out _; (with_reducible repeat (first | refine blk_drewN ?_ _ | refine blk_drew ?_ | refine blk_alloc ?_ _)); refine blk_far ?_ NB124_121.out _; (with_reducible repeat (first | refine blk_drewN ?_ _ | refine blk_drew ?_ | refine blk_alloc ?_ _)); refine blk_far ?_ NB124_138.out _; (with_reducible repeat (first | refine blk_drewN ?_ _ | refine blk_drew ?_ | refine blk_alloc ?_ _)); refine blk_far ?_ NB124_138.out _; (with_reducible repeat (first | refine blk_drewN ?_ _ | refine blk_drew ?_ | refine blk_alloc ?_ _)); exact BK124.out⟩, ⟨by repeat (first | (with_reducible first | exact HB.out | apply below_alloc | apply pw_below_drewN | apply below_drew1 | refine below_set ?_ GE121.out | refine below_set ?_ GE124.out | refine below_set ?_ GE138.out) | exact HB.out)⟩⟩
                    · rw [if_neg c112] at H
                      have c112b0 : (t137 == 0) = false := beq_eq_false_iff_ne.mpr c112
                      have c112b1 : (t137 != 0) = true := bne_iff_ne.mpr c112
                      obtain rfl := Option.some.inj H
                      have hnb121 := NB121_124.out
                      have hnc121 := NB124_121.out
                      have hcz122_0 : w13.cell? ⟨gb121, 0, none⟩ = some (.int .i64 x122000_1) := (blk_cell BK121.out 0).trans rfl
                      have hcz122_1 : w13.cell? ⟨gb121, 1, none⟩ = some (.int .i64 x122001_1) := (blk_cell BK121.out 1).trans rfl
                      have hfz122_0 := blk_frozen BK121.out 0
                      have hfz122_1 := blk_frozen BK121.out 1
                      go_wp2_with (first | ((with_reducible refine gate_callee (f := 7) rfl ?_); refine goesL_ (some 41) rfl rfl Try.func7 (by kernel_rfl) rfl #[.agg #[.int .i64 x122000_1, .int .i64 x122001_1], .int .i64 (wrap64 (x4_1 + (Int.tmod (wrap64 ((Int.tmod ((rd_T36 l0 x19_1).f1) 20) + 20)) 20)))] rfl (by (try simp only [List.map_toArray, List.map_cons, List.map_nil]); first | done | rfl | (simp only [List.length_drop, List.length_take]; rfl)) ?_; (with_reducible refine (ask_Lapse.calls x122000_1 x122001_1 (wrap64 (x4_1 + (Int.tmod (wrap64 ((Int.tmod ((rd_T36 l0 x19_1).f1) 20) + 20)) 20))) t134 t135 t136 t137 _ A111.out).mono ?_); rintro e w123 ⟨rfl, hb⟩; refine ⟨_, rfl, ?_⟩; have n0_ := Aside0.mk (blk_below (g := gb121) (o := .cells #[.int .i64 x122000_1, .int .i64 x122001_1] 23 (0, 0)) (by (with_reducible repeat (first | refine blk_drewN ?_ _ | refine blk_drew ?_ | refine blk_alloc ?_ _)); refine blk_far ?_ NB121_124.out _; (with_reducible repeat (first | refine blk_drewN ?_ _ | refine blk_drew ?_ | refine blk_alloc ?_ _)); refine blk_far ?_ NB121_124.out _; (with_reducible repeat (first | refine blk_drewN ?_ _ | refine blk_drew ?_ | refine blk_alloc ?_ _)); refine blk_far ?_ NB121_124.out _; (with_reducible repeat (first | refine blk_drewN ?_ _ | refine blk_drew ?_ | refine blk_alloc ?_ _)); exact BK121.out) hb); have n1_ := Aside0.mk (blk_below (g := gb124) (o := .cells #[.int .i64 ((rd_T36 l0 x19_1).f0), .int .i64 ((rd_T36 l0 x19_1).f1), .bool ((rd_T36 l0 x19_1).f2)] 36 (0, 0)) (by (with_reducible repeat (first | refine blk_drewN ?_ _ | refine blk_drew ?_ | refine blk_alloc ?_ _)); refine blk_put (cs := #[.int .i64 ((rd_T36 l0 x19_1).f0), .int .i64 ((rd_T36 l0 x19_1).f1), .bool false]) ?_ 2 _ rfl; (with_reducible repeat (first | refine blk_drewN ?_ _ | refine blk_drew ?_ | refine blk_alloc ?_ _)); refine blk_put (cs := #[.int .i64 ((rd_T36 l0 x19_1).f0), .int .i64 0, .bool false]) ?_ 1 _ rfl; (with_reducible repeat (first | refine blk_drewN ?_ _ | refine blk_drew ?_ | refine blk_alloc ?_ _)); refine blk_put (cs := #[.int .i64 0, .int .i64 0, .bool false]) ?_ 0 _ rfl; (with_reducible repeat (first | refine blk_drewN ?_ _ | refine blk_drew ?_ | refine blk_alloc ?_ _)); exact BK124.out) hb); have n2_ := Aside0.mk (below_step (by repeat (first | (with_reducible first | exact HB.out | apply below_alloc | apply pw_below_drewN | apply below_drew1 | refine below_set ?_ GE121.out | refine below_set ?_ GE124.out) | exact HB.out)) hb); clear BK121; clear BK124; clear HB; have BK121 := n0_; have BK124 := n1_; have HB := n2_; clear n0_ n1_ n2_; (try clear hb); (try clear hb2); (try clear hk); (try clear hi)) | ((with_reducible refine gate_dst (N := 14) rfl ?_); refine box_event ?hg (N := 14) ?hd (cs := #[.int .i64 0, .int .i64 0]) (t := 23) ?hr ?_; (case hd => rfl); (case hg => rfl); (case hr => first | (go_simp; done) | (go_simp; rfl)); intro gb138 hg w124 hbox hb; have n0_ := Aside0.mk (blk_below (g := gb121) (o := .cells #[.int .i64 x122000_1, .int .i64 x122001_1] 23 (0, 0)) (by (with_reducible repeat (first | refine blk_drewN ?_ _ | refine blk_drew ?_ | refine blk_alloc ?_ _)); exact BK121.out) hb); have n1_ := Aside0.mk (blk_below (g := gb124) (o := .cells #[.int .i64 ((rd_T36 l0 x19_1).f0), .int .i64 ((rd_T36 l0 x19_1).f1), .bool ((rd_T36 l0 x19_1).f2)] 36 (0, 0)) (by (with_reducible repeat (first | refine blk_drewN ?_ _ | refine blk_drew ?_ | refine blk_alloc ?_ _)); exact BK124.out) hb); have n2_ := Aside0.mk (below_step (by repeat (first | (with_reducible first | exact HB.out | apply below_alloc | apply pw_below_drewN | apply below_drew1 | refine below_set ?_ GE121.out | refine below_set ?_ GE124.out) | exact HB.out)) hb); have n3_ := Aside0.mk (hbox); have n4_ := Aside0.mk ((by rw [hg]; exact (below_size (by repeat (first | (with_reducible first | exact HB.out | apply below_alloc | apply pw_below_drewN | apply below_drew1 | refine below_set ?_ GE121.out | refine below_set ?_ GE124.out) | exact HB.out))) : w.heap.size ≤ gb138)); have n5_ := Aside0.mk ((by rw [hg]; exact (below_size (by repeat (first | (with_reducible first | exact HB.out | apply below_alloc | apply pw_below_drewN | apply below_drew1 | refine below_set ?_ GE121.out | refine below_set ?_ GE124.out) | exact HB.out))) : w.heap.size ≤ gb138)); have n6_ := Aside0.mk ((by rw [hg]; exact Nat.ne_of_lt (blk_lt (g := gb121) (o := .cells #[.int .i64 x122000_1, .int .i64 x122001_1] 23 (0, 0)) (by (with_reducible repeat (first | refine blk_drewN ?_ _ | refine blk_drew ?_ | refine blk_alloc ?_ _)); exact BK121.out)) : gb121 ≠ gb138)); have n7_ := Aside0.mk ((by rw [hg]; exact Nat.ne_of_gt (blk_lt (g := gb121) (o := .cells #[.int .i64 x122000_1, .int .i64 x122001_1] 23 (0, 0)) (by (with_reducible repeat (first | refine blk_drewN ?_ _ | refine blk_drew ?_ | refine blk_alloc ?_ _)); exact BK121.out)) : gb138 ≠ gb121)); have n8_ := Aside0.mk ((by rw [hg]; exact Nat.ne_of_lt (blk_lt (g := gb124) (o := .cells #[.int .i64 ((rd_T36 l0 x19_1).f0), .int .i64 ((rd_T36 l0 x19_1).f1), .bool ((rd_T36 l0 x19_1).f2)] 36 (0, 0)) (by (with_reducible repeat (first | refine blk_drewN ?_ _ | refine blk_drew ?_ | refine blk_alloc ?_ _)); exact BK124.out)) : gb124 ≠ gb138)); have n9_ := Aside0.mk ((by rw [hg]; exact Nat.ne_of_gt (blk_lt (g := gb124) (o := .cells #[.int .i64 ((rd_T36 l0 x19_1).f0), .int .i64 ((rd_T36 l0 x19_1).f1), .bool ((rd_T36 l0 x19_1).f2)] 36 (0, 0)) (by (with_reducible repeat (first | refine blk_drewN ?_ _ | refine blk_drew ?_ | refine blk_alloc ?_ _)); exact BK124.out)) : gb138 ≠ gb124)); clear BK121; clear BK124; clear HB; have BK121 := n0_; have BK124 := n1_; have HB := n2_; have BK138 := n3_; have GW138 := n4_; have GE138 := n5_; have NB121_138 := n6_; have NB138_121 := n7_; have NB124_138 := n8_; have NB138_124 := n9_; clear n0_ n1_ n2_ n3_ n4_ n5_ n6_ n7_ n8_ n9_; clear hb hbox hg; have hnb125 := NB138_121.out; have hnc125 := NB121_138.out; have hnb126 := NB138_124.out; have hnc126 := NB124_138.out; have hcz127_0 : w124.cell? ⟨gb138, 0, none⟩ = some (.int .i64 0) := (blk_cell BK138.out 0).trans rfl; have hcz127_1 : w124.cell? ⟨gb138, 1, none⟩ = some (.int .i64 0) := (blk_cell BK138.out 1).trans rfl; have hfz127_0 := blk_frozen BK138.out 0; have hfz127_1 := blk_frozen BK138.out 1))
                      go_ret
                      exact ⟨by first | rfl | (simp [errW_none, errW_some] <;> rfl) | (simp [*, errW_none, errW_some] <;> rfl), by repeat (first | (with_reducible first | exact HB.out | apply below_alloc | apply pw_below_drewN | apply below_drew1 | refine below_set ?_ GE121.out | refine below_set ?_ GE124.out | refine below_set ?_ GE138.out) | exact HB.out)⟩
              case rest =>
                clear HC12
                try clear c1
                try clear p1
                try clear q1
                try clear hx1
                try clear c2
                try clear p2
                try clear c3
                try clear c3b0
                try clear q3
                try clear c4
                try clear c4b0
                try clear c5
                try clear c5b0
                try clear c6
                try clear c6b0
                try clear p6
                try clear c7
                try clear c8
                try clear c9
                try clear c10
                try clear c11
                try clear c12
                try clear p12
                try clear q12
                try clear hx12
                try clear c14
                try clear c16
                try clear c16b0
                try clear c16b1
                try clear c18
                try clear c18b0
                try clear c18b1
                try clear c19
                try clear c23
                try clear c24
                try clear c27
                try clear c31
                try clear c32
                try clear c34
                try clear c34b0
                try clear c34b1
                try clear c36
                try clear c36b0
                try clear c36b1
                try clear q37
                try clear c38
                try clear c39
                try clear c39b0
                try clear c39b1
                try clear c40
                try clear c40b0
                try clear c41
                try clear c46
                try clear c47
                try clear c51
                try clear c56
                try clear c57
                try clear c61
                try clear p64
                try clear c66
                try clear c67
                try clear c71
                try clear c71b0
                try clear c71b1
                try clear c72
                try clear c72b0
                try clear c73
                try clear c78
                try clear c79
                try clear c83
                try clear c88
                try clear c89
                try clear c93
                try clear c98
                try clear c99
                try clear c103
                try clear c108
                try clear c109
                try clear c112
                try clear c112b0
                try clear c112b1
                try clear c113
                try clear c117
                try clear c118
                try clear c121
                try clear p123
                try clear q123
                try clear hx123
                try clear c125
                try clear c126
                try clear hcz100_0
                try clear hcz100_1
                try clear hcz101_0
                try clear hcz101_1
                try clear hcz102_0
                try clear hcz102_1
                try clear hcz102_2
                try clear hcz104_0
                try clear hcz104_1
                try clear hcz105_0
                try clear hcz105_1
                try clear hcz105_2
                try clear hcz10_0
                try clear hcz10_1
                try clear hcz10_2
                try clear hcz110_0
                try clear hcz110_1
                try clear hcz114_0
                try clear hcz114_1
                try clear hcz119_0
                try clear hcz119_1
                try clear hcz120_0
                try clear hcz120_1
                try clear hcz122_0
                try clear hcz122_1
                try clear hcz127_0
                try clear hcz127_1
                try clear hcz15_0
                try clear hcz15_1
                try clear hcz15_2
                try clear hcz20_0
                try clear hcz20_1
                try clear hcz25_0
                try clear hcz25_1
                try clear hcz26_0
                try clear hcz26_1
                try clear hcz28_0
                try clear hcz28_1
                try clear hcz33_0
                try clear hcz33_1
                try clear hcz42_0
                try clear hcz42_1
                try clear hcz43_0
                try clear hcz43_1
                try clear hcz43_2
                try clear hcz48_0
                try clear hcz48_1
                try clear hcz49_0
                try clear hcz49_1
                try clear hcz50_0
                try clear hcz50_1
                try clear hcz50_2
                try clear hcz52_0
                try clear hcz52_1
                try clear hcz53_0
                try clear hcz53_1
                try clear hcz53_2
                try clear hcz58_0
                try clear hcz58_1
                try clear hcz59_0
                try clear hcz59_1
                try clear hcz60_0
                try clear hcz60_1
                try clear hcz60_2
                try clear hcz62_0
                try clear hcz62_1
                try clear hcz63_0
                try clear hcz63_1
                try clear hcz63_2
                try clear hcz68_0
                try clear hcz68_1
                try clear hcz69_0
                try clear hcz69_1
                try clear hcz70_0
                try clear hcz70_1
                try clear hcz70_2
                try clear hcz74_0
                try clear hcz74_1
                try clear hcz75_0
                try clear hcz75_1
                try clear hcz75_2
                try clear hcz80_0
                try clear hcz80_1
                try clear hcz81_0
                try clear hcz81_1
                try clear hcz82_0
                try clear hcz82_1
                try clear hcz82_2
                try clear hcz84_0
                try clear hcz84_1
                try clear hcz85_0
                try clear hcz85_1
                try clear hcz85_2
                try clear hcz90_0
                try clear hcz90_1
                try clear hcz91_0
                try clear hcz91_1
                try clear hcz92_0
                try clear hcz92_1
                try clear hcz92_2
                try clear hcz94_0
                try clear hcz94_1
                try clear hcz95_0
                try clear hcz95_1
                try clear hcz95_2
                try clear hfz100_0
                try clear hfz100_1
                try clear hfz101_0
                try clear hfz101_1
                try clear hfz102_0
                try clear hfz102_1
                try clear hfz102_2
                try clear hfz104_0
                try clear hfz104_1
                try clear hfz105_0
                try clear hfz105_1
                try clear hfz105_2
                try clear hfz10_0
                try clear hfz10_1
                try clear hfz10_2
                try clear hfz110_0
                try clear hfz110_1
                try clear hfz114_0
                try clear hfz114_1
                try clear hfz119_0
                try clear hfz119_1
                try clear hfz120_0
                try clear hfz120_1
                try clear hfz122_0
                try clear hfz122_1
                try clear hfz127_0
                try clear hfz127_1
                try clear hfz15_0
                try clear hfz15_1
                try clear hfz15_2
                try clear hfz20_0
                try clear hfz20_1
                try clear hfz25_0
                try clear hfz25_1
                try clear hfz26_0
                try clear hfz26_1
                try clear hfz28_0
                try clear hfz28_1
                try clear hfz33_0
                try clear hfz33_1
                try clear hfz42_0
                try clear hfz42_1
                try clear hfz43_0
                try clear hfz43_1
                try clear hfz43_2
                try clear hfz48_0
                try clear hfz48_1
                try clear hfz49_0
                try clear hfz49_1
                try clear hfz50_0
                try clear hfz50_1
                try clear hfz50_2
                try clear hfz52_0
                try clear hfz52_1
                try clear hfz53_0
                try clear hfz53_1
                try clear hfz53_2
                try clear hfz58_0
                try clear hfz58_1
                try clear hfz59_0
                try clear hfz59_1
                try clear hfz60_0
                try clear hfz60_1
                try clear hfz60_2
                try clear hfz62_0
                try clear hfz62_1
                try clear hfz63_0
                try clear hfz63_1
                try clear hfz63_2
                try clear hfz68_0
                try clear hfz68_1
                try clear hfz69_0
                try clear hfz69_1
                try clear hfz70_0
                try clear hfz70_1
                try clear hfz70_2
                try clear hfz74_0
                try clear hfz74_1
                try clear hfz75_0
                try clear hfz75_1
                try clear hfz75_2
                try clear hfz80_0
                try clear hfz80_1
                try clear hfz81_0
                try clear hfz81_1
                try clear hfz82_0
                try clear hfz82_1
                try clear hfz82_2
                try clear hfz84_0
                try clear hfz84_1
                try clear hfz85_0
                try clear hfz85_1
                try clear hfz85_2
                try clear hfz90_0
                try clear hfz90_1
                try clear hfz91_0
                try clear hfz91_1
                try clear hfz92_0
                try clear hfz92_1
                try clear hfz92_2
                try clear hfz94_0
                try clear hfz94_1
                try clear hfz95_0
                try clear hfz95_1
                try clear hfz95_2
                try clear hx123_0
                try clear hx123_1
                try clear hx123_2
                try clear p123
                try clear p2
                try clear q123
                obtain ⟨kq, x5_11, x6_11, x7_11, x122000_11, x122001_11, rfl, rfl, rfl, HA, HJ11, BK121, BK124, HB⟩ := hcut
                cases kq with
                | zero => exact absurd HA.out (by simp [tarrylaw12_AskOnce.j1])
                | succ kj11 =>
                  have H := HA.out
                  clear HA
                  simp only [tarrylaw12_AskOnce.j1] at H
                  have HC128 := Aside0.mk H
                  clear H
                  go_upto_region 26 with (fail)
                  go_cut [112] (fun v112 wc => ∃ (kq : Nat) (x112_127 : Bool), v112 = .bool x112_127 ∧ Aside0 (tarrylaw12_AskOnce.j2 kq (wrap64 (x4_1 + (Int.tmod (wrap64 ((Int.tmod ((rd_T36 l0 x19_1).f1) 20) + 20)) 20))) x5_11 x6_11 x7_11 l0 (l0.length : Int) x19_1 x112_127 x122000_11 x122001_11 = some r) ∧ Aside0 (kq ≤ kj11) ∧ Aside0 (wc.heap[gb121]? = some (.cells #[.int .i64 x122000_11, .int .i64 x122001_11] 23 (0, 0))) ∧ Aside0 (wc.heap[gb124]? = some (.cells #[.int .i64 ((rd_T36 l0 x19_1).f0), .int .i64 ((rd_T36 l0 x19_1).f1), .bool ((rd_T36 l0 x19_1).f2)] 36 (0, 0))) ∧ Aside0 (Below w.heap.size w wc))
                  case first =>
                    have H := HC128.out
                    clear HC128
                    by_cases c129 : x5_11 > 1
                    · rw [if_pos c129] at H
                      have c129b0 : decide (1 < x5_11) = true := decide_eq_true c129
                      clear c129
                      (first | rw [c129b0] | (simp only [i64_w, i32_w]; rw [c129b0]) | skip)
                      have H' := Aside0.mk H
                      clear H
                      go_wp2
                      go_meet
                      case rel => exact ⟨_, (true), (by first | rfl | (simp; done) | (simp [*]; done)), H', ⟨by have := HK1.out; have := HJ11.out; first | omega | exact Nat.le_refl _⟩, ⟨by (with_reducible repeat (first | refine blk_drewN ?_ _ | refine blk_drew ?_ | refine blk_alloc ?_ _)); exact BK121.out⟩, ⟨by (with_reducible repeat (first | refine blk_drewN ?_ _ | refine blk_drew ?_ | refine blk_alloc ?_ _)); exact BK124.out⟩, ⟨by repeat (first | (with_reducible first | exact HB.out | apply below_alloc | apply pw_below_drewN | apply below_drew1 | refine below_set ?_ GE121.out | refine below_set ?_ GE124.out) | exact HB.out)⟩⟩
                    · rw [if_neg c129] at H
                      have c129b0 : decide (1 < x5_11) = false := decide_eq_false c129
                      clear c129
                      (first | rw [c129b0] | (simp only [i64_w, i32_w]; rw [c129b0]) | skip)
                      by_cases c130 : x6_11 > 1
                      · rw [if_pos c130] at H
                        have c130b0 : decide (1 < x6_11) = true := decide_eq_true c130
                        clear c130
                        have H' := Aside0.mk H
                        clear H
                        go_wp2
                        go_meet
                        case rel => exact ⟨_, (true), (by first | rfl | (simp; done) | (simp [*]; done)), H', ⟨by have := HK1.out; have := HJ11.out; first | omega | exact Nat.le_refl _⟩, ⟨by (with_reducible repeat (first | refine blk_drewN ?_ _ | refine blk_drew ?_ | refine blk_alloc ?_ _)); exact BK121.out⟩, ⟨by (with_reducible repeat (first | refine blk_drewN ?_ _ | refine blk_drew ?_ | refine blk_alloc ?_ _)); exact BK124.out⟩, ⟨by repeat (first | (with_reducible first | exact HB.out | apply below_alloc | apply pw_below_drewN | apply below_drew1 | refine below_set ?_ GE121.out | refine below_set ?_ GE124.out) | exact HB.out)⟩⟩
                      · rw [if_neg c130] at H
                        have c130b0 : decide (1 < x6_11) = false := decide_eq_false c130
                        clear c130
                        replace H := Option.bind_eq_some_iff.mp H
                        obtain ⟨t139, A1310, H⟩ := H
                        replace H : (if t139 = true then ((ask_May.f x122000_11 x122001_11 (wrap64 (x4_1 + (Int.tmod (wrap64 ((Int.tmod ((rd_T36 l0 x19_1).f1) 20) + 20)) 20)))).bind fun t140 => (if t140 = true then (if x6_11 = 1 then (tarrylaw12_AskOnce.j2 kj11 (wrap64 (x4_1 + (Int.tmod (wrap64 ((Int.tmod ((rd_T36 l0 x19_1).f1) 20) + 20)) 20))) x5_11 x6_11 x7_11 l0 (l0.length : Int) x19_1 (decide ((wrap64 (x4_1 + (Int.tmod (wrap64 ((Int.tmod ((rd_T36 l0 x19_1).f1) 20) + 20)) 20))) ≥ x7_11)) x122000_11 x122001_11) else (tarrylaw12_AskOnce.j2 kj11 (wrap64 (x4_1 + (Int.tmod (wrap64 ((Int.tmod ((rd_T36 l0 x19_1).f1) 20) + 20)) 20))) x5_11 x6_11 x7_11 l0 (l0.length : Int) x19_1 true x122000_11 x122001_11)) else (tarrylaw12_AskOnce.j2 kj11 (wrap64 (x4_1 + (Int.tmod (wrap64 ((Int.tmod ((rd_T36 l0 x19_1).f1) 20) + 20)) 20))) x5_11 x6_11 x7_11 l0 (l0.length : Int) x19_1 false x122000_11 x122001_11))) else (tarrylaw12_AskOnce.j2 kj11 (wrap64 (x4_1 + (Int.tmod (wrap64 ((Int.tmod ((rd_T36 l0 x19_1).f1) 20) + 20)) 20))) x5_11 x6_11 x7_11 l0 (l0.length : Int) x19_1 true x122000_11 x122001_11)) = some r := H
                        have A131 := Aside0.mk A1310
                        clear A1310
                        by_cases c132 : t139 = true
                        · subst c132
                          have H1 : ((ask_May.f x122000_11 x122001_11 (wrap64 (x4_1 + (Int.tmod (wrap64 ((Int.tmod ((rd_T36 l0 x19_1).f1) 20) + 20)) 20)))).bind fun t140 => (if t140 = true then (if x6_11 = 1 then (tarrylaw12_AskOnce.j2 kj11 (wrap64 (x4_1 + (Int.tmod (wrap64 ((Int.tmod ((rd_T36 l0 x19_1).f1) 20) + 20)) 20))) x5_11 x6_11 x7_11 l0 (l0.length : Int) x19_1 (decide ((wrap64 (x4_1 + (Int.tmod (wrap64 ((Int.tmod ((rd_T36 l0 x19_1).f1) 20) + 20)) 20))) ≥ x7_11)) x122000_11 x122001_11) else (tarrylaw12_AskOnce.j2 kj11 (wrap64 (x4_1 + (Int.tmod (wrap64 ((Int.tmod ((rd_T36 l0 x19_1).f1) 20) + 20)) 20))) x5_11 x6_11 x7_11 l0 (l0.length : Int) x19_1 true x122000_11 x122001_11)) else (tarrylaw12_AskOnce.j2 kj11 (wrap64 (x4_1 + (Int.tmod (wrap64 ((Int.tmod ((rd_T36 l0 x19_1).f1) 20) + 20)) 20))) x5_11 x6_11 x7_11 l0 (l0.length : Int) x19_1 false x122000_11 x122001_11))) = some r := by rw [if_pos rfl] at H; exact H
                          clear H
                          have H := H1
                          clear H1
                          replace H := Option.bind_eq_some_iff.mp H
                          obtain ⟨t140, A1330, H⟩ := H
                          replace H : (if t140 = true then (if x6_11 = 1 then (tarrylaw12_AskOnce.j2 kj11 (wrap64 (x4_1 + (Int.tmod (wrap64 ((Int.tmod ((rd_T36 l0 x19_1).f1) 20) + 20)) 20))) x5_11 x6_11 x7_11 l0 (l0.length : Int) x19_1 (decide ((wrap64 (x4_1 + (Int.tmod (wrap64 ((Int.tmod ((rd_T36 l0 x19_1).f1) 20) + 20)) 20))) ≥ x7_11)) x122000_11 x122001_11) else (tarrylaw12_AskOnce.j2 kj11 (wrap64 (x4_1 + (Int.tmod (wrap64 ((Int.tmod ((rd_T36 l0 x19_1).f1) 20) + 20)) 20))) x5_11 x6_11 x7_11 l0 (l0.length : Int) x19_1 true x122000_11 x122001_11)) else (tarrylaw12_AskOnce.j2 kj11 (wrap64 (x4_1 + (Int.tmod (wrap64 ((Int.tmod ((rd_T36 l0 x19_1).f1) 20) + 20)) 20))) x5_11 x6_11 x7_11 l0 (l0.length : Int) x19_1 false x122000_11 x122001_11)) = some r := H
                          have A133 := Aside0.mk A1330
                          clear A1330
                          by_cases c134 : t140 = true
                          · subst c134
                            have H1 : (if x6_11 = 1 then (tarrylaw12_AskOnce.j2 kj11 (wrap64 (x4_1 + (Int.tmod (wrap64 ((Int.tmod ((rd_T36 l0 x19_1).f1) 20) + 20)) 20))) x5_11 x6_11 x7_11 l0 (l0.length : Int) x19_1 (decide ((wrap64 (x4_1 + (Int.tmod (wrap64 ((Int.tmod ((rd_T36 l0 x19_1).f1) 20) + 20)) 20))) ≥ x7_11)) x122000_11 x122001_11) else (tarrylaw12_AskOnce.j2 kj11 (wrap64 (x4_1 + (Int.tmod (wrap64 ((Int.tmod ((rd_T36 l0 x19_1).f1) 20) + 20)) 20))) x5_11 x6_11 x7_11 l0 (l0.length : Int) x19_1 true x122000_11 x122001_11)) = some r := by rw [if_pos rfl] at H; exact H
                            clear H
                            have H := H1
                            clear H1
                            by_cases c135 : x6_11 = 1
                            · rw [if_pos c135] at H
                              have c135b0 : (x6_11 == 1) = true := beq_iff_eq.mpr c135
                              have c135b1 : (x6_11 != 1) = false := bne_eq_false_iff_eq.mpr c135
                              clear c135
                              have H' := Aside0.mk H
                              clear H
                              have hnb136 := NB121_124.out
                              have hnc136 := NB124_121.out
                              have hcz137_0 : wc.cell? ⟨gb121, 0, none⟩ = some (.int .i64 x122000_11) := (blk_cell BK121.out 0).trans rfl
                              have hcz137_1 : wc.cell? ⟨gb121, 1, none⟩ = some (.int .i64 x122001_11) := (blk_cell BK121.out 1).trans rfl
                              have hfz137_0 := blk_frozen BK121.out 0
                              have hfz137_1 := blk_frozen BK121.out 1
                              go_wp2_with (first | (go_at_call 8; (with_reducible refine (ask_Right.calls x122000_11 x122001_11 true _ A131.out).mono ?_); rintro e w138 ⟨rfl, hb⟩; have n0_ := Aside0.mk (blk_below (g := gb121) (o := .cells #[.int .i64 x122000_11, .int .i64 x122001_11] 23 (0, 0)) (by (with_reducible repeat (first | refine blk_drewN ?_ _ | refine blk_drew ?_ | refine blk_alloc ?_ _)); exact BK121.out) hb); have n1_ := Aside0.mk (blk_below (g := gb124) (o := .cells #[.int .i64 ((rd_T36 l0 x19_1).f0), .int .i64 ((rd_T36 l0 x19_1).f1), .bool ((rd_T36 l0 x19_1).f2)] 36 (0, 0)) (by (with_reducible repeat (first | refine blk_drewN ?_ _ | refine blk_drew ?_ | refine blk_alloc ?_ _)); exact BK124.out) hb); have n2_ := Aside0.mk (below_step (by repeat (first | (with_reducible first | exact HB.out | apply below_alloc | apply pw_below_drewN | apply below_drew1 | refine below_set ?_ GE121.out | refine below_set ?_ GE124.out) | exact HB.out)) hb); clear BK121; clear BK124; clear HB; have BK121 := n0_; have BK124 := n1_; have HB := n2_; clear n0_ n1_ n2_; (try clear hb); (try clear hb2); (try clear hk); (try clear hi); have hcz139_0 : w138.cell? ⟨gb121, 0, none⟩ = some (.int .i64 x122000_11) := (blk_cell BK121.out 0).trans rfl; have hcz139_1 : w138.cell? ⟨gb121, 1, none⟩ = some (.int .i64 x122001_11) := (blk_cell BK121.out 1).trans rfl; have hfz139_0 := blk_frozen BK121.out 0; have hfz139_1 := blk_frozen BK121.out 1) | (go_at_call 10; (with_reducible refine (ask_May.calls x122000_11 x122001_11 (wrap64 (x4_1 + (Int.tmod (wrap64 ((Int.tmod ((rd_T36 l0 x19_1).f1) 20) + 20)) 20))) true _ A133.out).mono ?_); rintro e w140 ⟨rfl, hb⟩; have n0_ := Aside0.mk (blk_below (g := gb121) (o := .cells #[.int .i64 x122000_11, .int .i64 x122001_11] 23 (0, 0)) (by (with_reducible repeat (first | refine blk_drewN ?_ _ | refine blk_drew ?_ | refine blk_alloc ?_ _)); exact BK121.out) hb); have n1_ := Aside0.mk (blk_below (g := gb124) (o := .cells #[.int .i64 ((rd_T36 l0 x19_1).f0), .int .i64 ((rd_T36 l0 x19_1).f1), .bool ((rd_T36 l0 x19_1).f2)] 36 (0, 0)) (by (with_reducible repeat (first | refine blk_drewN ?_ _ | refine blk_drew ?_ | refine blk_alloc ?_ _)); exact BK124.out) hb); have n2_ := Aside0.mk (below_step (by repeat (first | (with_reducible first | exact HB.out | apply below_alloc | apply pw_below_drewN | apply below_drew1 | refine below_set ?_ GE121.out | refine below_set ?_ GE124.out) | exact HB.out)) hb); clear BK121; clear BK124; clear HB; have BK121 := n0_; have BK124 := n1_; have HB := n2_; clear n0_ n1_ n2_; (try clear hb); (try clear hb2); (try clear hk); (try clear hi)))
                              go_meet
                              case rel => exact ⟨_, (decide ((wrap64 (x4_1 + (Int.tmod (wrap64 ((Int.tmod ((rd_T36 l0 x19_1).f1) 20) + 20)) 20))) ≥ x7_11)), (by first | rfl | (simp; done) | (simp [*]; done)), H', ⟨by have := HK1.out; have := HJ11.out; first | omega | exact Nat.le_refl _⟩, ⟨by (with_reducible repeat (first | refine blk_drewN ?_ _ | refine blk_drew ?_ | refine blk_alloc ?_ _)); exact BK121.out⟩, ⟨by (with_reducible repeat (first | refine blk_drewN ?_ _ | refine blk_drew ?_ | refine blk_alloc ?_ _)); exact BK124.out⟩, ⟨by repeat (first | (with_reducible first | exact HB.out | apply below_alloc | apply pw_below_drewN | apply below_drew1 | refine below_set ?_ GE121.out | refine below_set ?_ GE124.out) | exact HB.out)⟩⟩
                            · rw [if_neg c135] at H
                              have c135b0 : (x6_11 == 1) = false := beq_eq_false_iff_ne.mpr c135
                              have c135b1 : (x6_11 != 1) = true := bne_iff_ne.mpr c135
                              have H' := Aside0.mk H
                              clear H
                              have hnb141 := NB121_124.out
                              have hnc141 := NB124_121.out
                              have hcz142_0 : wc.cell? ⟨gb121, 0, none⟩ = some (.int .i64 x122000_11) := (blk_cell BK121.out 0).trans rfl
                              have hcz142_1 : wc.cell? ⟨gb121, 1, none⟩ = some (.int .i64 x122001_11) := (blk_cell BK121.out 1).trans rfl
                              have hfz142_0 := blk_frozen BK121.out 0
                              have hfz142_1 := blk_frozen BK121.out 1
                              go_wp2_with (first | (go_at_call 8; (with_reducible refine (ask_Right.calls x122000_11 x122001_11 true _ A131.out).mono ?_); rintro e w143 ⟨rfl, hb⟩; have n0_ := Aside0.mk (blk_below (g := gb121) (o := .cells #[.int .i64 x122000_11, .int .i64 x122001_11] 23 (0, 0)) (by (with_reducible repeat (first | refine blk_drewN ?_ _ | refine blk_drew ?_ | refine blk_alloc ?_ _)); exact BK121.out) hb); have n1_ := Aside0.mk (blk_below (g := gb124) (o := .cells #[.int .i64 ((rd_T36 l0 x19_1).f0), .int .i64 ((rd_T36 l0 x19_1).f1), .bool ((rd_T36 l0 x19_1).f2)] 36 (0, 0)) (by (with_reducible repeat (first | refine blk_drewN ?_ _ | refine blk_drew ?_ | refine blk_alloc ?_ _)); exact BK124.out) hb); have n2_ := Aside0.mk (below_step (by repeat (first | (with_reducible first | exact HB.out | apply below_alloc | apply pw_below_drewN | apply below_drew1 | refine below_set ?_ GE121.out | refine below_set ?_ GE124.out) | exact HB.out)) hb); clear BK121; clear BK124; clear HB; have BK121 := n0_; have BK124 := n1_; have HB := n2_; clear n0_ n1_ n2_; (try clear hb); (try clear hb2); (try clear hk); (try clear hi); have hcz144_0 : w143.cell? ⟨gb121, 0, none⟩ = some (.int .i64 x122000_11) := (blk_cell BK121.out 0).trans rfl; have hcz144_1 : w143.cell? ⟨gb121, 1, none⟩ = some (.int .i64 x122001_11) := (blk_cell BK121.out 1).trans rfl; have hfz144_0 := blk_frozen BK121.out 0; have hfz144_1 := blk_frozen BK121.out 1) | (go_at_call 10; (with_reducible refine (ask_May.calls x122000_11 x122001_11 (wrap64 (x4_1 + (Int.tmod (wrap64 ((Int.tmod ((rd_T36 l0 x19_1).f1) 20) + 20)) 20))) true _ A133.out).mono ?_); rintro e w145 ⟨rfl, hb⟩; have n0_ := Aside0.mk (blk_below (g := gb121) (o := .cells #[.int .i64 x122000_11, .int .i64 x122001_11] 23 (0, 0)) (by (with_reducible repeat (first | refine blk_drewN ?_ _ | refine blk_drew ?_ | refine blk_alloc ?_ _)); exact BK121.out) hb); have n1_ := Aside0.mk (blk_below (g := gb124) (o := .cells #[.int .i64 ((rd_T36 l0 x19_1).f0), .int .i64 ((rd_T36 l0 x19_1).f1), .bool ((rd_T36 l0 x19_1).f2)] 36 (0, 0)) (by (with_reducible repeat (first | refine blk_drewN ?_ _ | refine blk_drew ?_ | refine blk_alloc ?_ _)); exact BK124.out) hb); have n2_ := Aside0.mk (below_step (by repeat (first | (with_reducible first | exact HB.out | apply below_alloc | apply pw_below_drewN | apply below_drew1 | refine below_set ?_ GE121.out | refine below_set ?_ GE124.out) | exact HB.out)) hb); clear BK121; clear BK124; clear HB; have BK121 := n0_; have BK124 := n1_; have HB := n2_; clear n0_ n1_ n2_; (try clear hb); (try clear hb2); (try clear hk); (try clear hi)))
                              go_meet
                              case rel => exact ⟨_, (true), (by first | rfl | (simp; done) | (simp [*]; done)), H', ⟨by have := HK1.out; have := HJ11.out; first | omega | exact Nat.le_refl _⟩, ⟨by (with_reducible repeat (first | refine blk_drewN ?_ _ | refine blk_drew ?_ | refine blk_alloc ?_ _)); exact BK121.out⟩, ⟨by (with_reducible repeat (first | refine blk_drewN ?_ _ | refine blk_drew ?_ | refine blk_alloc ?_ _)); exact BK124.out⟩, ⟨by repeat (first | (with_reducible first | exact HB.out | apply below_alloc | apply pw_below_drewN | apply below_drew1 | refine below_set ?_ GE121.out | refine below_set ?_ GE124.out) | exact HB.out)⟩⟩
                          · replace c134 := Bool.eq_false_iff.mpr c134
                            subst c134
                            have H1 : (tarrylaw12_AskOnce.j2 kj11 (wrap64 (x4_1 + (Int.tmod (wrap64 ((Int.tmod ((rd_T36 l0 x19_1).f1) 20) + 20)) 20))) x5_11 x6_11 x7_11 l0 (l0.length : Int) x19_1 false x122000_11 x122001_11) = some r := by rw [if_neg (show ¬ (false = true) by decide)] at H; exact H
                            clear H
                            have H := H1
                            clear H1
                            have H' := Aside0.mk H
                            clear H
                            have hnb146 := NB121_124.out
                            have hnc146 := NB124_121.out
                            have hcz147_0 : wc.cell? ⟨gb121, 0, none⟩ = some (.int .i64 x122000_11) := (blk_cell BK121.out 0).trans rfl
                            have hcz147_1 : wc.cell? ⟨gb121, 1, none⟩ = some (.int .i64 x122001_11) := (blk_cell BK121.out 1).trans rfl
                            have hfz147_0 := blk_frozen BK121.out 0
                            have hfz147_1 := blk_frozen BK121.out 1
                            go_wp2_with (first | (go_at_call 8; (with_reducible refine (ask_Right.calls x122000_11 x122001_11 true _ A131.out).mono ?_); rintro e w148 ⟨rfl, hb⟩; have n0_ := Aside0.mk (blk_below (g := gb121) (o := .cells #[.int .i64 x122000_11, .int .i64 x122001_11] 23 (0, 0)) (by (with_reducible repeat (first | refine blk_drewN ?_ _ | refine blk_drew ?_ | refine blk_alloc ?_ _)); exact BK121.out) hb); have n1_ := Aside0.mk (blk_below (g := gb124) (o := .cells #[.int .i64 ((rd_T36 l0 x19_1).f0), .int .i64 ((rd_T36 l0 x19_1).f1), .bool ((rd_T36 l0 x19_1).f2)] 36 (0, 0)) (by (with_reducible repeat (first | refine blk_drewN ?_ _ | refine blk_drew ?_ | refine blk_alloc ?_ _)); exact BK124.out) hb); have n2_ := Aside0.mk (below_step (by repeat (first | (with_reducible first | exact HB.out | apply below_alloc | apply pw_below_drewN | apply below_drew1 | refine below_set ?_ GE121.out | refine below_set ?_ GE124.out) | exact HB.out)) hb); clear BK121; clear BK124; clear HB; have BK121 := n0_; have BK124 := n1_; have HB := n2_; clear n0_ n1_ n2_; (try clear hb); (try clear hb2); (try clear hk); (try clear hi); have hcz149_0 : w148.cell? ⟨gb121, 0, none⟩ = some (.int .i64 x122000_11) := (blk_cell BK121.out 0).trans rfl; have hcz149_1 : w148.cell? ⟨gb121, 1, none⟩ = some (.int .i64 x122001_11) := (blk_cell BK121.out 1).trans rfl; have hfz149_0 := blk_frozen BK121.out 0; have hfz149_1 := blk_frozen BK121.out 1) | (go_at_call 10; (with_reducible refine (ask_May.calls x122000_11 x122001_11 (wrap64 (x4_1 + (Int.tmod (wrap64 ((Int.tmod ((rd_T36 l0 x19_1).f1) 20) + 20)) 20))) false _ A133.out).mono ?_); rintro e w150 ⟨rfl, hb⟩; have n0_ := Aside0.mk (blk_below (g := gb121) (o := .cells #[.int .i64 x122000_11, .int .i64 x122001_11] 23 (0, 0)) (by (with_reducible repeat (first | refine blk_drewN ?_ _ | refine blk_drew ?_ | refine blk_alloc ?_ _)); exact BK121.out) hb); have n1_ := Aside0.mk (blk_below (g := gb124) (o := .cells #[.int .i64 ((rd_T36 l0 x19_1).f0), .int .i64 ((rd_T36 l0 x19_1).f1), .bool ((rd_T36 l0 x19_1).f2)] 36 (0, 0)) (by (with_reducible repeat (first | refine blk_drewN ?_ _ | refine blk_drew ?_ | refine blk_alloc ?_ _)); exact BK124.out) hb); have n2_ := Aside0.mk (below_step (by repeat (first | (with_reducible first | exact HB.out | apply below_alloc | apply pw_below_drewN | apply below_drew1 | refine below_set ?_ GE121.out | refine below_set ?_ GE124.out) | exact HB.out)) hb); clear BK121; clear BK124; clear HB; have BK121 := n0_; have BK124 := n1_; have HB := n2_; clear n0_ n1_ n2_; (try clear hb); (try clear hb2); (try clear hk); (try clear hi)))
                            go_meet
                            case rel => exact ⟨_, (false), (by first | rfl | (simp; done) | (simp [*]; done)), H', ⟨by have := HK1.out; have := HJ11.out; first | omega | exact Nat.le_refl _⟩, ⟨by (with_reducible repeat (first | refine blk_drewN ?_ _ | refine blk_drew ?_ | refine blk_alloc ?_ _)); exact BK121.out⟩, ⟨by (with_reducible repeat (first | refine blk_drewN ?_ _ | refine blk_drew ?_ | refine blk_alloc ?_ _)); exact BK124.out⟩, ⟨by repeat (first | (with_reducible first | exact HB.out | apply below_alloc | apply pw_below_drewN | apply below_drew1 | refine below_set ?_ GE121.out | refine below_set ?_ GE124.out) | exact HB.out)⟩⟩
                        · replace c132 := Bool.eq_false_iff.mpr c132
                          subst c132
                          have H1 : (tarrylaw12_AskOnce.j2 kj11 (wrap64 (x4_1 + (Int.tmod (wrap64 ((Int.tmod ((rd_T36 l0 x19_1).f1) 20) + 20)) 20))) x5_11 x6_11 x7_11 l0 (l0.length : Int) x19_1 true x122000_11 x122001_11) = some r := by rw [if_neg (show ¬ (false = true) by decide)] at H; exact H
                          clear H
                          have H := H1
                          clear H1
                          have H' := Aside0.mk H
                          clear H
                          have hnb151 := NB121_124.out
                          have hnc151 := NB124_121.out
                          have hcz152_0 : wc.cell? ⟨gb121, 0, none⟩ = some (.int .i64 x122000_11) := (blk_cell BK121.out 0).trans rfl
                          have hcz152_1 : wc.cell? ⟨gb121, 1, none⟩ = some (.int .i64 x122001_11) := (blk_cell BK121.out 1).trans rfl
                          have hfz152_0 := blk_frozen BK121.out 0
                          have hfz152_1 := blk_frozen BK121.out 1
                          go_wp2_with (first | (go_at_call 8; (with_reducible refine (ask_Right.calls x122000_11 x122001_11 false _ A131.out).mono ?_); rintro e w153 ⟨rfl, hb⟩; have n0_ := Aside0.mk (blk_below (g := gb121) (o := .cells #[.int .i64 x122000_11, .int .i64 x122001_11] 23 (0, 0)) (by (with_reducible repeat (first | refine blk_drewN ?_ _ | refine blk_drew ?_ | refine blk_alloc ?_ _)); exact BK121.out) hb); have n1_ := Aside0.mk (blk_below (g := gb124) (o := .cells #[.int .i64 ((rd_T36 l0 x19_1).f0), .int .i64 ((rd_T36 l0 x19_1).f1), .bool ((rd_T36 l0 x19_1).f2)] 36 (0, 0)) (by (with_reducible repeat (first | refine blk_drewN ?_ _ | refine blk_drew ?_ | refine blk_alloc ?_ _)); exact BK124.out) hb); have n2_ := Aside0.mk (below_step (by repeat (first | (with_reducible first | exact HB.out | apply below_alloc | apply pw_below_drewN | apply below_drew1 | refine below_set ?_ GE121.out | refine below_set ?_ GE124.out) | exact HB.out)) hb); clear BK121; clear BK124; clear HB; have BK121 := n0_; have BK124 := n1_; have HB := n2_; clear n0_ n1_ n2_; (try clear hb); (try clear hb2); (try clear hk); (try clear hi)))
                          go_meet
                          case rel => exact ⟨_, (true), (by first | rfl | (simp; done) | (simp [*]; done)), H', ⟨by have := HK1.out; have := HJ11.out; first | omega | exact Nat.le_refl _⟩, ⟨by (with_reducible repeat (first | refine blk_drewN ?_ _ | refine blk_drew ?_ | refine blk_alloc ?_ _)); exact BK121.out⟩, ⟨by (with_reducible repeat (first | refine blk_drewN ?_ _ | refine blk_drew ?_ | refine blk_alloc ?_ _)); exact BK124.out⟩, ⟨by repeat (first | (with_reducible first | exact HB.out | apply below_alloc | apply pw_below_drewN | apply below_drew1 | refine below_set ?_ GE121.out | refine below_set ?_ GE124.out) | exact HB.out)⟩⟩
                  case rest =>
                    clear HC128
                    try clear c1
                    try clear p1
                    try clear q1
                    try clear hx1
                    try clear c2
                    try clear p2
                    try clear c3
                    try clear c3b0
                    try clear q3
                    try clear c4
                    try clear c4b0
                    try clear c5
                    try clear c5b0
                    try clear c6
                    try clear c6b0
                    try clear p6
                    try clear c7
                    try clear c8
                    try clear c9
                    try clear c10
                    try clear c11
                    try clear c12
                    try clear p12
                    try clear q12
                    try clear hx12
                    try clear c13
                    try clear c14
                    try clear c15
                    try clear c16
                    try clear c16b0
                    try clear c16b1
                    try clear c18
                    try clear c18b0
                    try clear c18b1
                    try clear c19
                    try clear c23
                    try clear c24
                    try clear c27
                    try clear c31
                    try clear c32
                    try clear c34
                    try clear c34b0
                    try clear c34b1
                    try clear c36
                    try clear c36b0
                    try clear c36b1
                    try clear q37
                    try clear c38
                    try clear c39
                    try clear c39b0
                    try clear c39b1
                    try clear c40
                    try clear c40b0
                    try clear c41
                    try clear c46
                    try clear c47
                    try clear c51
                    try clear c56
                    try clear c57
                    try clear c61
                    try clear p64
                    try clear c66
                    try clear c67
                    try clear c71
                    try clear c71b0
                    try clear c71b1
                    try clear c72
                    try clear c72b0
                    try clear c73
                    try clear c78
                    try clear c79
                    try clear c83
                    try clear c88
                    try clear c89
                    try clear c93
                    try clear c98
                    try clear c99
                    try clear c103
                    try clear c108
                    try clear c109
                    try clear c112
                    try clear c112b0
                    try clear c112b1
                    try clear c113
                    try clear c117
                    try clear c118
                    try clear c121
                    try clear p123
                    try clear q123
                    try clear hx123
                    try clear c125
                    try clear c126
                    try clear c129
                    try clear c129b0
                    try clear c130
                    try clear c130b0
                    try clear c132
                    try clear c134
                    try clear c135
                    try clear c135b0
                    try clear c135b1
                    try clear c136
                    try clear c141
                    try clear c146
                    try clear c151
                    try clear hcz100_0
                    try clear hcz100_1
                    try clear hcz101_0
                    try clear hcz101_1
                    try clear hcz102_0
                    try clear hcz102_1
                    try clear hcz102_2
                    try clear hcz104_0
                    try clear hcz104_1
                    try clear hcz105_0
                    try clear hcz105_1
                    try clear hcz105_2
                    try clear hcz10_0
                    try clear hcz10_1
                    try clear hcz10_2
                    try clear hcz110_0
                    try clear hcz110_1
                    try clear hcz114_0
                    try clear hcz114_1
                    try clear hcz119_0
                    try clear hcz119_1
                    try clear hcz120_0
                    try clear hcz120_1
                    try clear hcz122_0
                    try clear hcz122_1
                    try clear hcz127_0
                    try clear hcz127_1
                    try clear hcz137_0
                    try clear hcz137_1
                    try clear hcz139_0
                    try clear hcz139_1
                    try clear hcz142_0
                    try clear hcz142_1
                    try clear hcz144_0
                    try clear hcz144_1
                    try clear hcz147_0
                    try clear hcz147_1
                    try clear hcz149_0
                    try clear hcz149_1
                    try clear hcz152_0
                    try clear hcz152_1
                    try clear hcz15_0
                    try clear hcz15_1
                    try clear hcz15_2
                    try clear hcz20_0
                    try clear hcz20_1
                    try clear hcz25_0
                    try clear hcz25_1
                    try clear hcz26_0
                    try clear hcz26_1
                    try clear hcz28_0
                    try clear hcz28_1
                    try clear hcz33_0
                    try clear hcz33_1
                    try clear hcz42_0
                    try clear hcz42_1
                    try clear hcz43_0
                    try clear hcz43_1
                    try clear hcz43_2
                    try clear hcz48_0
                    try clear hcz48_1
                    try clear hcz49_0
                    try clear hcz49_1
                    try clear hcz50_0
                    try clear hcz50_1
                    try clear hcz50_2
                    try clear hcz52_0
                    try clear hcz52_1
                    try clear hcz53_0
                    try clear hcz53_1
                    try clear hcz53_2
                    try clear hcz58_0
                    try clear hcz58_1
                    try clear hcz59_0
                    try clear hcz59_1
                    try clear hcz60_0
                    try clear hcz60_1
                    try clear hcz60_2
                    try clear hcz62_0
                    try clear hcz62_1
                    try clear hcz63_0
                    try clear hcz63_1
                    try clear hcz63_2
                    try clear hcz68_0
                    try clear hcz68_1
                    try clear hcz69_0
                    try clear hcz69_1
                    try clear hcz70_0
                    try clear hcz70_1
                    try clear hcz70_2
                    try clear hcz74_0
                    try clear hcz74_1
                    try clear hcz75_0
                    try clear hcz75_1
                    try clear hcz75_2
                    try clear hcz80_0
                    try clear hcz80_1
                    try clear hcz81_0
                    try clear hcz81_1
                    try clear hcz82_0
                    try clear hcz82_1
                    try clear hcz82_2
                    try clear hcz84_0
                    try clear hcz84_1
                    try clear hcz85_0
                    try clear hcz85_1
                    try clear hcz85_2
                    try clear hcz90_0
                    try clear hcz90_1
                    try clear hcz91_0
                    try clear hcz91_1
                    try clear hcz92_0
                    try clear hcz92_1
                    try clear hcz92_2
                    try clear hcz94_0
                    try clear hcz94_1
                    try clear hcz95_0
                    try clear hcz95_1
                    try clear hcz95_2
                    try clear hfz100_0
                    try clear hfz100_1
                    try clear hfz101_0
                    try clear hfz101_1
                    try clear hfz102_0
                    try clear hfz102_1
                    try clear hfz102_2
                    try clear hfz104_0
                    try clear hfz104_1
                    try clear hfz105_0
                    try clear hfz105_1
                    try clear hfz105_2
                    try clear hfz10_0
                    try clear hfz10_1
                    try clear hfz10_2
                    try clear hfz110_0
                    try clear hfz110_1
                    try clear hfz114_0
                    try clear hfz114_1
                    try clear hfz119_0
                    try clear hfz119_1
                    try clear hfz120_0
                    try clear hfz120_1
                    try clear hfz122_0
                    try clear hfz122_1
                    try clear hfz127_0
                    try clear hfz127_1
                    try clear hfz137_0
                    try clear hfz137_1
                    try clear hfz139_0
                    try clear hfz139_1
                    try clear hfz142_0
                    try clear hfz142_1
                    try clear hfz144_0
                    try clear hfz144_1
                    try clear hfz147_0
                    try clear hfz147_1
                    try clear hfz149_0
                    try clear hfz149_1
                    try clear hfz152_0
                    try clear hfz152_1
                    try clear hfz15_0
                    try clear hfz15_1
                    try clear hfz15_2
                    try clear hfz20_0
                    try clear hfz20_1
                    try clear hfz25_0
                    try clear hfz25_1
                    try clear hfz26_0
                    try clear hfz26_1
                    try clear hfz28_0
                    try clear hfz28_1
                    try clear hfz33_0
                    try clear hfz33_1
                    try clear hfz42_0
                    try clear hfz42_1
                    try clear hfz43_0
                    try clear hfz43_1
                    try clear hfz43_2
                    try clear hfz48_0
                    try clear hfz48_1
                    try clear hfz49_0
                    try clear hfz49_1
                    try clear hfz50_0
                    try clear hfz50_1
                    try clear hfz50_2
                    try clear hfz52_0
                    try clear hfz52_1
                    try clear hfz53_0
                    try clear hfz53_1
                    try clear hfz53_2
                    try clear hfz58_0
                    try clear hfz58_1
                    try clear hfz59_0
                    try clear hfz59_1
                    try clear hfz60_0
                    try clear hfz60_1
                    try clear hfz60_2
                    try clear hfz62_0
                    try clear hfz62_1
                    try clear hfz63_0
                    try clear hfz63_1
                    try clear hfz63_2
                    try clear hfz68_0
                    try clear hfz68_1
                    try clear hfz69_0
                    try clear hfz69_1
                    try clear hfz70_0
                    try clear hfz70_1
                    try clear hfz70_2
                    try clear hfz74_0
                    try clear hfz74_1
                    try clear hfz75_0
                    try clear hfz75_1
                    try clear hfz75_2
                    try clear hfz80_0
                    try clear hfz80_1
                    try clear hfz81_0
                    try clear hfz81_1
                    try clear hfz82_0
                    try clear hfz82_1
                    try clear hfz82_2
                    try clear hfz84_0
                    try clear hfz84_1
                    try clear hfz85_0
                    try clear hfz85_1
                    try clear hfz85_2
                    try clear hfz90_0
                    try clear hfz90_1
                    try clear hfz91_0
                    try clear hfz91_1
                    try clear hfz92_0
                    try clear hfz92_1
                    try clear hfz92_2
                    try clear hfz94_0
                    try clear hfz94_1
                    try clear hfz95_0
                    try clear hfz95_1
                    try clear hfz95_2
                    try clear hx123_0
                    try clear hx123_1
                    try clear hx123_2
                    try clear p1
                    try clear p12
                    try clear p123
                    try clear p2
                    try clear p6
                    try clear p64
                    try clear q1
                    try clear q12
                    try clear q123
                    try clear q3
                    try clear q37
                    obtain ⟨kq, x112_127, rfl, HA, HJ127, BK121, BK124, HB⟩ := hcut
                    cases kq with
                    | zero => exact absurd HA.out (by simp [tarrylaw12_AskOnce.j2])
                    | succ kj127 =>
                      have H := HA.out
                      clear HA
                      simp only [tarrylaw12_AskOnce.j2] at H
                      by_cases c154 : x112_127 = true
                      · subst c154
                        have H1 : (some false) = some r := by rw [if_pos rfl] at H; exact H
                        clear H
                        have H := H1
                        clear H1
                        obtain rfl := Option.some.inj H
                        go_wp2
                        go_ret
                        exact ⟨by first | rfl | (simp [errW_none, errW_some] <;> rfl) | (simp [*, errW_none, errW_some] <;> rfl), by repeat (first | (with_reducible first | exact HB.out | apply below_alloc | apply pw_below_drewN | apply below_drew1 | refine below_set ?_ GE121.out | refine below_set ?_ GE124.out) | exact HB.out)⟩
                      · replace c154 := Bool.eq_false_iff.mpr c154
                        subst c154
                        have H1 : (if x6_11 = 1 then (if (wrap64 (x4_1 + (Int.tmod (wrap64 ((Int.tmod ((rd_T36 l0 x19_1).f1) 20) + 20)) 20))) < x7_11 then ((ask_May.f x122000_11 x122001_11 (wrap64 (x4_1 + (Int.tmod (wrap64 ((Int.tmod ((rd_T36 l0 x19_1).f1) 20) + 20)) 20)))).bind fun t141 => (if t141 = true then (tarrylaw12_AskOnce.l0 kj127 (wrap64 (x4_1 + (Int.tmod (wrap64 ((Int.tmod ((rd_T36 l0 x19_1).f1) 20) + 20)) 20))) x5_11 x6_11 x7_11 l0 (l0.length : Int) (wrap64 (x19_1 + 1)) x122000_11 x122001_11) else (some false))) else (tarrylaw12_AskOnce.l0 kj127 (wrap64 (x4_1 + (Int.tmod (wrap64 ((Int.tmod ((rd_T36 l0 x19_1).f1) 20) + 20)) 20))) x5_11 x6_11 x7_11 l0 (l0.length : Int) (wrap64 (x19_1 + 1)) x122000_11 x122001_11)) else (tarrylaw12_AskOnce.l0 kj127 (wrap64 (x4_1 + (Int.tmod (wrap64 ((Int.tmod ((rd_T36 l0 x19_1).f1) 20) + 20)) 20))) x5_11 x6_11 x7_11 l0 (l0.length : Int) (wrap64 (x19_1 + 1)) x122000_11 x122001_11)) = some r := by rw [if_neg (show ¬ (false = true) by decide)] at H; exact H
                        clear H
                        have H := H1
                        clear H1
                        by_cases c155 : x6_11 = 1
                        · rw [if_pos c155] at H
                          have c155b0 : (x6_11 == 1) = true := beq_iff_eq.mpr c155
                          have c155b1 : (x6_11 != 1) = false := bne_eq_false_iff_eq.mpr c155
                          clear c155
                          by_cases c156 : (wrap64 (x4_1 + (Int.tmod (wrap64 ((Int.tmod ((rd_T36 l0 x19_1).f1) 20) + 20)) 20))) < x7_11
                          · rw [if_pos c156] at H
                            have c156b0 : decide ((wrap64 (x4_1 + (Int.tmod (wrap64 ((Int.tmod ((rd_T36 l0 x19_1).f1) 20) + 20)) 20))) < x7_11) = true := decide_eq_true c156
                            clear c156
                            replace H := Option.bind_eq_some_iff.mp H
                            obtain ⟨t141, A1570, H⟩ := H
                            replace H : (if t141 = true then (tarrylaw12_AskOnce.l0 kj127 (wrap64 (x4_1 + (Int.tmod (wrap64 ((Int.tmod ((rd_T36 l0 x19_1).f1) 20) + 20)) 20))) x5_11 x6_11 x7_11 l0 (l0.length : Int) (wrap64 (x19_1 + 1)) x122000_11 x122001_11) else (some false)) = some r := H
                            have A157 := Aside0.mk A1570
                            clear A1570
                            by_cases c158 : t141 = true
                            · subst c158
                              have H1 : (tarrylaw12_AskOnce.l0 kj127 (wrap64 (x4_1 + (Int.tmod (wrap64 ((Int.tmod ((rd_T36 l0 x19_1).f1) 20) + 20)) 20))) x5_11 x6_11 x7_11 l0 (l0.length : Int) (wrap64 (x19_1 + 1)) x122000_11 x122001_11) = some r := by rw [if_pos rfl] at H; exact H
                              clear H
                              have H := H1
                              clear H1
                              have H' := Aside0.mk H
                              clear H
                              have hnb159 := NB121_124.out
                              have hnc159 := NB124_121.out
                              have hcz160_0 : wc.cell? ⟨gb121, 0, none⟩ = some (.int .i64 x122000_11) := (blk_cell BK121.out 0).trans rfl
                              have hcz160_1 : wc.cell? ⟨gb121, 1, none⟩ = some (.int .i64 x122001_11) := (blk_cell BK121.out 1).trans rfl
                              have hfz160_0 := blk_frozen BK121.out 0
                              have hfz160_1 := blk_frozen BK121.out 1
                              go_wp2_with (first | (go_at_call 10; (with_reducible refine (ask_May.calls x122000_11 x122001_11 (wrap64 (x4_1 + (Int.tmod (wrap64 ((Int.tmod ((rd_T36 l0 x19_1).f1) 20) + 20)) 20))) true _ A157.out).mono ?_); rintro e w161 ⟨rfl, hb⟩; have n0_ := Aside0.mk (blk_below (g := gb121) (o := .cells #[.int .i64 x122000_11, .int .i64 x122001_11] 23 (0, 0)) (by (with_reducible repeat (first | refine blk_drewN ?_ _ | refine blk_drew ?_ | refine blk_alloc ?_ _)); exact BK121.out) hb); have n1_ := Aside0.mk (blk_below (g := gb124) (o := .cells #[.int .i64 ((rd_T36 l0 x19_1).f0), .int .i64 ((rd_T36 l0 x19_1).f1), .bool ((rd_T36 l0 x19_1).f2)] 36 (0, 0)) (by (with_reducible repeat (first | refine blk_drewN ?_ _ | refine blk_drew ?_ | refine blk_alloc ?_ _)); exact BK124.out) hb); have n2_ := Aside0.mk (below_step (by repeat (first | (with_reducible first | exact HB.out | apply below_alloc | apply pw_below_drewN | apply below_drew1 | refine below_set ?_ GE121.out | refine below_set ?_ GE124.out) | exact HB.out)) hb); clear BK121; clear BK124; clear HB; have BK121 := n0_; have BK124 := n1_; have HB := n2_; clear n0_ n1_ n2_; (try clear hb); (try clear hb2); (try clear hk); (try clear hi)))
                              go_roundg kj127
                              case measure => have := HK1.out; have := HJ11.out; have := HJ127.out; omega
                              case rel => exact ⟨((wrap64 (x4_1 + (Int.tmod (wrap64 ((Int.tmod ((rd_T36 l0 x19_1).f1) 20) + 20)) 20)))), (x5_11), (x6_11), (x7_11), (wrap64 (x19_1 + 1)), (x122000_11), (x122001_11), (by first | rfl | (simp; done) | (simp [*]; done)), (by first | rfl | (simp; done) | (simp [*]; done)), (by first | rfl | (simp; done) | (simp [*]; done)), (by first | rfl | (simp; done) | (simp [*]; done)), (by first | rfl | (simp; done) | (simp [*]; done)), H', ⟨by have := HK1.out; have := HJ11.out; have := HJ127.out; omega⟩, ⟨by (with_reducible repeat (first | refine blk_drewN ?_ _ | refine blk_drew ?_ | refine blk_alloc ?_ _)); exact BK121.out⟩, ⟨by repeat (first | (with_reducible first | exact HB.out | apply below_alloc | apply pw_below_drewN | apply below_drew1 | refine below_set ?_ GE121.out | refine below_set ?_ GE124.out) | exact HB.out)⟩⟩
                            · replace c158 := Bool.eq_false_iff.mpr c158
                              subst c158
                              have H1 : (some false) = some r := by rw [if_neg (show ¬ (false = true) by decide)] at H; exact H
                              clear H
                              have H := H1
                              clear H1
                              obtain rfl := Option.some.inj H
                              have hnb162 := NB121_124.out
                              have hnc162 := NB124_121.out
                              have hcz163_0 : wc.cell? ⟨gb121, 0, none⟩ = some (.int .i64 x122000_11) := (blk_cell BK121.out 0).trans rfl
                              have hcz163_1 : wc.cell? ⟨gb121, 1, none⟩ = some (.int .i64 x122001_11) := (blk_cell BK121.out 1).trans rfl
                              have hfz163_0 := blk_frozen BK121.out 0
                              have hfz163_1 := blk_frozen BK121.out 1
                              go_wp2_with (first | (go_at_call 10; (with_reducible refine (ask_May.calls x122000_11 x122001_11 (wrap64 (x4_1 + (Int.tmod (wrap64 ((Int.tmod ((rd_T36 l0 x19_1).f1) 20) + 20)) 20))) false _ A157.out).mono ?_); rintro e w164 ⟨rfl, hb⟩; have n0_ := Aside0.mk (blk_below (g := gb121) (o := .cells #[.int .i64 x122000_11, .int .i64 x122001_11] 23 (0, 0)) (by (with_reducible repeat (first | refine blk_drewN ?_ _ | refine blk_drew ?_ | refine blk_alloc ?_ _)); exact BK121.out) hb); have n1_ := Aside0.mk (blk_below (g := gb124) (o := .cells #[.int .i64 ((rd_T36 l0 x19_1).f0), .int .i64 ((rd_T36 l0 x19_1).f1), .bool ((rd_T36 l0 x19_1).f2)] 36 (0, 0)) (by (with_reducible repeat (first | refine blk_drewN ?_ _ | refine blk_drew ?_ | refine blk_alloc ?_ _)); exact BK124.out) hb); have n2_ := Aside0.mk (below_step (by repeat (first | (with_reducible first | exact HB.out | apply below_alloc | apply pw_below_drewN | apply below_drew1 | refine below_set ?_ GE121.out | refine below_set ?_ GE124.out) | exact HB.out)) hb); clear BK121; clear BK124; clear HB; have BK121 := n0_; have BK124 := n1_; have HB := n2_; clear n0_ n1_ n2_; (try clear hb); (try clear hb2); (try clear hk); (try clear hi)))
                              go_ret
                              exact ⟨by first | rfl | (simp [errW_none, errW_some] <;> rfl) | (simp [*, errW_none, errW_some] <;> rfl), by repeat (first | (with_reducible first | exact HB.out | apply below_alloc | apply pw_below_drewN | apply below_drew1 | refine below_set ?_ GE121.out | refine below_set ?_ GE124.out) | exact HB.out)⟩
                          · rw [if_neg c156] at H
                            have c156b0 : decide ((wrap64 (x4_1 + (Int.tmod (wrap64 ((Int.tmod ((rd_T36 l0 x19_1).f1) 20) + 20)) 20))) < x7_11) = false := decide_eq_false c156
                            clear c156
                            have H' := Aside0.mk H
                            clear H
                            go_wp2
                            go_roundg kj127
                            case measure => have := HK1.out; have := HJ11.out; have := HJ127.out; omega
                            case rel => exact ⟨((wrap64 (x4_1 + (Int.tmod (wrap64 ((Int.tmod ((rd_T36 l0 x19_1).f1) 20) + 20)) 20)))), (x5_11), (x6_11), (x7_11), (wrap64 (x19_1 + 1)), (x122000_11), (x122001_11), (by first | rfl | (simp; done) | (simp [*]; done)), (by first | rfl | (simp; done) | (simp [*]; done)), (by first | rfl | (simp; done) | (simp [*]; done)), (by first | rfl | (simp; done) | (simp [*]; done)), (by first | rfl | (simp; done) | (simp [*]; done)), H', ⟨by have := HK1.out; have := HJ11.out; have := HJ127.out; omega⟩, ⟨by (with_reducible repeat (first | refine blk_drewN ?_ _ | refine blk_drew ?_ | refine blk_alloc ?_ _)); exact BK121.out⟩, ⟨by repeat (first | (with_reducible first | exact HB.out | apply below_alloc | apply pw_below_drewN | apply below_drew1 | refine below_set ?_ GE121.out | refine below_set ?_ GE124.out) | exact HB.out)⟩⟩
                        · rw [if_neg c155] at H
                          have c155b0 : (x6_11 == 1) = false := beq_eq_false_iff_ne.mpr c155
                          have c155b1 : (x6_11 != 1) = true := bne_iff_ne.mpr c155
                          have H' := Aside0.mk H
                          clear H
                          go_wp2
                          go_roundg kj127
                          case measure => have := HK1.out; have := HJ11.out; have := HJ127.out; omega
                          case rel => exact ⟨((wrap64 (x4_1 + (Int.tmod (wrap64 ((Int.tmod ((rd_T36 l0 x19_1).f1) 20) + 20)) 20)))), (x5_11), (x6_11), (x7_11), (wrap64 (x19_1 + 1)), (x122000_11), (x122001_11), (by first | rfl | (simp; done) | (simp [*]; done)), (by first | rfl | (simp; done) | (simp [*]; done)), (by first | rfl | (simp; done) | (simp [*]; done)), (by first | rfl | (simp; done) | (simp [*]; done)), (by first | rfl | (simp; done) | (simp [*]; done)), H', ⟨by have := HK1.out; have := HJ11.out; have := HJ127.out; omega⟩, ⟨by (with_reducible repeat (first | refine blk_drewN ?_ _ | refine blk_drew ?_ | refine blk_alloc ?_ _)); exact BK121.out⟩, ⟨by repeat (first | (with_reducible first | exact HB.out | apply below_alloc | apply pw_below_drewN | apply below_drew1 | refine below_set ?_ GE121.out | refine below_set ?_ GE124.out) | exact HB.out)⟩⟩
          · rw [if_neg c5] at H
            exact absurd H (by simp)
        · rw [if_neg c4] at H
          exact absurd H (by simp)
      · rw [if_neg c3] at H
        have c3b0 : decide (x19_1 < (l0.length : Int)) = false := decide_eq_false c3
        clear c3
        replace H := Option.bind_eq_some_iff.mp H
        obtain ⟨t122, A1650, H⟩ := H
        replace H : (some t122) = some r := H
        have A165 := Aside0.mk A1650
        clear A1650
        obtain rfl := Option.some.inj H
        go_wp2_with (first | ((with_reducible refine gate_callee (f := 11) rfl ?_); refine goesL_ (some 127) rfl rfl Try.func11 (by kernel_rfl) rfl #[] rfl (by (try simp only [List.map_toArray, List.map_cons, List.map_nil]); first | done | rfl | (simp only [List.length_drop, List.length_take]; rfl)) ?_; (with_reducible refine (tarrylaw12_alive.calls k1  t122 _ A165.out).mono ?_); rintro e w166 ⟨rfl, hb⟩; refine ⟨_, rfl, ?_⟩; have n0_ := Aside0.mk (blk_below (g := gb121) (o := .cells #[.int .i64 x122000_1, .int .i64 x122001_1] 23 (0, 0)) (by (with_reducible repeat (first | refine blk_drewN ?_ _ | refine blk_drew ?_ | refine blk_alloc ?_ _)); exact BK121.out) hb); have n1_ := Aside0.mk (below_step (by repeat (first | (with_reducible first | exact HB.out | apply below_alloc | apply pw_below_drewN | apply below_drew1 | refine below_set ?_ GE121.out) | exact HB.out)) hb); clear BK121; clear HB; have BK121 := n0_; have HB := n1_; clear n0_ n1_; (try clear hb); (try clear hb2); (try clear hk); (try clear hi)))
        go_ret
        exact ⟨by first | rfl | (simp [errW_none, errW_some] <;> rfl) | (simp [*, errW_none, errW_some] <;> rfl), by repeat (first | (with_reducible first | exact HB.out | apply below_alloc | apply pw_below_drewN | apply below_drew1 | refine below_set ?_ GE121.out) | exact HB.out)⟩

def ok36 (x : S36) : Prop := ((Lit.int .i64 x.f0).wf = true) ∧ ((Lit.int .i64 x.f1).wf = true) ∧ (True)
/-- THE ONE PURE STATEMENT of tarrylaw12_AskOnce. -/
def tarrylaw12_AskOnce.Pure : Prop := ∀ (l0 : List (S36)), (l0.length ≤ 9223372036854775807 ∧ ∀ x ∈ l0, ok36 x) → ∃ k, tarrylaw12_AskOnce.f k l0 = some true

end Go.Proofs.Ytlkcagbkempaeaa.PAskOnce
