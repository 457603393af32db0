/- Written by a program of this repo over the kit's print program: what the program's functions do, each as a Lean function, shown of the loaded code; or a statement's row over that; no condition of its own. -/
import Derived.Test.YtagclnkmndgeoaaPPayKeepsx0
import Derived.Test.YtagclnkmndgeoaaPPayKeepsx1
import Derived.Test.YtagclnkmndgeoaaPPayKeepsx4
import Derived.Test.YtagclnkmndgeoaaPPayKeepsx5
import Derived.Test.YtagclnkmndgeoaaPPayKeepsx6
import Derived.Test.YtagclnkmndgeoaaPPayKeepsx7
import Derived.Test.YtagclnkmndgeoaaPPayKeepsx8
namespace Go.Proofs.Ytagclnkmndgeoaa.PPayKeeps
open Go.RowKit Go.Proofs.YtagclnkmndgeoaaW.PrintWords Go.Proofs.YtagclnkmndgeoaaW.PrintLast Go.Proofs.YtagclnkmndgeoaaW.PrintMore
attribute [local go_sem] max2_int min2_int max_two min_two max_three min_three max_four min_four   -- for this text's walks alone
set_option linter.unusedVariables false
set_option linter.unusedSimpArgs false

attribute [local go_sem high] eqA23
/-! ### tarrylaw11_PayKeeps: function 6 -/
mutual
def tarrylaw11_PayKeeps.l0 : Nat → Int → Int → Int → List (S39) → Int → Int → Int → Int → Int → Int → Option (Bool)
  | 0, _, _, _, _, _, _, _, _, _, _ => none
  | k + 1, x0, x1, x9, x32, x33, x34, x134000, x134001, x134002, x134003 => if x34 < x33 then (if 0 ≤ x34 then (if x34 < (x32.length : Int) then (if x34 ≥ 30 then ((tarrylaw11_alive.f k).bind fun t167 => (if t167 = true then (some (decide (x134001 ≤ (wrap64 (x0 * x1))))) else (none))) else (if (Int.tmod (wrap64 ((Int.tmod ((rd_T39 x32 x34).f0) 4) + 4)) 4) = 0 then ((pay_Lapse.f x134000 x134001 x134002 x134003 ((rd_T39 x32 x34).f1)).bind fun bt181 => (tarrylaw11_PayKeeps.j1 k x0 x1 x9 bt181.2.2.2.2.2 x32 x33 x34 x134000 x134001 x134002 x134003 ((rd_T39 x32 x34).f0) ((rd_T39 x32 x34).f1) bt181.1 bt181.2.1 bt181.2.2.1 bt181.2.2.2.1)) else (if (Int.tmod (wrap64 ((Int.tmod ((rd_T39 x32 x34).f0) 4) + 4)) 4) = 1 then ((pay_Renew.f x134000 x134001 x134002 x134003 ((rd_T39 x32 x34).f1)).bind fun bt187 => (tarrylaw11_PayKeeps.j1 k x0 x1 x9 bt187.2.2.2.2 x32 x33 x34 x134000 x134001 x134002 x134003 ((rd_T39 x32 x34).f0) ((rd_T39 x32 x34).f1) bt187.1 bt187.2.1 bt187.2.2.1 bt187.2.2.2.1)) else (if (Int.tmod (wrap64 ((Int.tmod ((rd_T39 x32 x34).f0) 4) + 4)) 4) = 2 then ((pay_Catch.f x134000 x134001 x134002 x134003 ((rd_T39 x32 x34).f1)).bind fun bt192 => (if bt192.2.2.2.2 = 0 then (tarrylaw11_PayKeeps.j1 k x0 x1 (wrap64 (x9 + ((rd_T39 x32 x34).f1))) bt192.2.2.2.2 x32 x33 x34 x134000 x134001 x134002 x134003 ((rd_T39 x32 x34).f0) ((rd_T39 x32 x34).f1) bt192.1 bt192.2.1 bt192.2.2.1 bt192.2.2.2.1) else (tarrylaw11_PayKeeps.j1 k x0 x1 x9 bt192.2.2.2.2 x32 x33 x34 x134000 x134001 x134002 x134003 ((rd_T39 x32 x34).f0) ((rd_T39 x32 x34).f1) bt192.1 bt192.2.1 bt192.2.2.1 bt192.2.2.2.1))) else ((pay_Close.f x134000 x134001 x134002 x134003).bind fun bt197 => (tarrylaw11_PayKeeps.j1 k x0 x1 x9 bt197.2.2.2.2 x32 x33 x34 x134000 x134001 x134002 x134003 ((rd_T39 x32 x34).f0) ((rd_T39 x32 x34).f1) bt197.1 bt197.2.1 bt197.2.2.1 bt197.2.2.2.1)))))) else (none)) else (none)) else ((tarrylaw11_alive.f k).bind fun t149 => (if t149 = true then (some (decide (x134001 ≤ (wrap64 (x0 * x1))))) else (none)))
def tarrylaw11_PayKeeps.j1 : Nat → Int → Int → Int → Int → List (S39) → Int → Int → Int → Int → Int → Int → Int → Int → Int → Int → Int → Int → Option (Bool)
  | 0, _, _, _, _, _, _, _, _, _, _, _, _, _, _, _, _, _ => none
  | k + 1, x0, x1, x9, x13, x32, x33, x34, x134000, x134001, x134002, x134003, x167000, x167001, x181000, x181001, x181002, x181003 => if x13 = 0 then ((pay_Right.f x181000 x181001 x181002 x181003).bind fun t227 => (if t227 = true then (if x181000 = (wrap64 (x0 * x1)) then (if x181001 = x9 then (if x134003 = 3 then (if (!(x181000 == x134000) || (!(x181001 == x134001) || (!(x181002 == x134002) || (!(x181003 == x134003))))) = true then (none) else ((pay_Good.f x181000 x181001 x181002 x181003 (-1)).bind fun t228 => (if t228 = true then ((pay_Good.f x134000 x134001 x134002 x134003 (-1)).bind fun t229 => (if t229 = true then (tarrylaw11_PayKeeps.l0 k x0 x1 x9 x32 x33 (wrap64 (x34 + 1)) x181000 x181001 x181002 x181003) else (if (Int.tmod (wrap64 ((Int.tmod x167000 4) + 4)) 4) = 1 then (tarrylaw11_PayKeeps.l0 k x0 x1 x9 x32 x33 (wrap64 (x34 + 1)) x181000 x181001 x181002 x181003) else (none)))) else (tarrylaw11_PayKeeps.l0 k x0 x1 x9 x32 x33 (wrap64 (x34 + 1)) x181000 x181001 x181002 x181003)))) else ((pay_Good.f x181000 x181001 x181002 x181003 (-1)).bind fun t230 => (if t230 = true then ((pay_Good.f x134000 x134001 x134002 x134003 (-1)).bind fun t231 => (if t231 = true then (tarrylaw11_PayKeeps.l0 k x0 x1 x9 x32 x33 (wrap64 (x34 + 1)) x181000 x181001 x181002 x181003) else (if (Int.tmod (wrap64 ((Int.tmod x167000 4) + 4)) 4) = 1 then (tarrylaw11_PayKeeps.l0 k x0 x1 x9 x32 x33 (wrap64 (x34 + 1)) x181000 x181001 x181002 x181003) else (none)))) else (tarrylaw11_PayKeeps.l0 k x0 x1 x9 x32 x33 (wrap64 (x34 + 1)) x181000 x181001 x181002 x181003)))) else (none)) else (none)) else (none))) else (tarrylaw11_PayKeeps.l0 k x0 x1 x9 x32 x33 (wrap64 (x34 + 1)) x134000 x134001 x134002 x134003)
end
def tarrylaw11_PayKeeps.f (k : Nat) (a0 : Int) (a1 : Int) (l2 : List (S39)) : Option (Bool) := (pay_New.f k (wrap64 (1 + (Int.tmod (wrap64 ((Int.tmod a0 100) + 100)) 100))) (wrap64 (1 + (Int.tmod (wrap64 ((Int.tmod a1 100) + 100)) 100))) 10).bind fun bt128 => (if bt128.2.2.2.2 = 0 then (tarrylaw11_PayKeeps.l0 k (wrap64 (1 + (Int.tmod (wrap64 ((Int.tmod a0 100) + 100)) 100))) (wrap64 (1 + (Int.tmod (wrap64 ((Int.tmod a1 100) + 100)) 100))) 0 l2 (l2.length : Int) 0 bt128.1 bt128.2.1 bt128.2.2.1 bt128.2.2.2.1) else (none))
theorem tarrylaw11_PayKeeps.mono_l : ∀ k, (∀ y0 y1 y2 y3 y4 y5 y6 y7 y8 y9, LeO (tarrylaw11_PayKeeps.l0 k y0 y1 y2 y3 y4 y5 y6 y7 y8 y9) (tarrylaw11_PayKeeps.l0 (k + 1) y0 y1 y2 y3 y4 y5 y6 y7 y8 y9)) ∧ (∀ y0 y1 y2 y3 y4 y5 y6 y7 y8 y9 y10 y11 y12 y13 y14 y15 y16, LeO (tarrylaw11_PayKeeps.j1 k y0 y1 y2 y3 y4 y5 y6 y7 y8 y9 y10 y11 y12 y13 y14 y15 y16) (tarrylaw11_PayKeeps.j1 (k + 1) y0 y1 y2 y3 y4 y5 y6 y7 y8 y9 y10 y11 y12 y13 y14 y15 y16))
  | 0 => ⟨fun _ _ _ _ _ _ _ _ _ _ r h => by simp [tarrylaw11_PayKeeps.l0] at h, fun _ _ _ _ _ _ _ _ _ _ _ _ _ _ _ _ _ r h => by simp [tarrylaw11_PayKeeps.j1] at h⟩
  | k + 1 => by
    obtain ⟨ih0, ih1⟩ := tarrylaw11_PayKeeps.mono_l k
    refine ⟨?_, ?_⟩
    · intro y0 y1 y2 y3 y4 y5 y6 y7 y8 y9
      unfold tarrylaw11_PayKeeps.l0
      repeat' first
      | (with_reducible exact ih0 _ _ _ _ _ _ _ _ _ _)
      | (with_reducible exact ih1 _ _ _ _ _ _ _ _ _ _ _ _ _ _ _ _ _)
      | (with_reducible exact pay_New.mono _ _ _ _)
      | (with_reducible exact tarrylaw11_alive.mono _)
      | (with_reducible exact LeO.refl _)
      | (with_reducible exact LeO.none _)
      | (with_reducible refine LeO.ite ?_ ?_)
      | (with_reducible refine LeO.bind ?_ (fun _ => ?_))
      | exact ih0 _ _ _ _ _ _ _ _ _ _
      | exact ih1 _ _ _ _ _ _ _ _ _ _ _ _ _ _ _ _ _
      | exact pay_New.mono _ _ _ _
      | exact tarrylaw11_alive.mono _
      | exact LeO.none _
      | refine LeO.ite ?_ ?_
      | refine LeO.bind ?_ (fun _ => ?_)
    · intro y0 y1 y2 y3 y4 y5 y6 y7 y8 y9 y10 y11 y12 y13 y14 y15 y16
      unfold tarrylaw11_PayKeeps.j1
      repeat' first
      | (with_reducible exact ih0 _ _ _ _ _ _ _ _ _ _)
      | (with_reducible exact ih1 _ _ _ _ _ _ _ _ _ _ _ _ _ _ _ _ _)
      | (with_reducible exact pay_New.mono _ _ _ _)
      | (with_reducible exact tarrylaw11_alive.mono _)
      | (with_reducible exact LeO.refl _)
      | (with_reducible exact LeO.none _)
      | (with_reducible refine LeO.ite ?_ ?_)
      | (with_reducible refine LeO.bind ?_ (fun _ => ?_))
      | exact ih0 _ _ _ _ _ _ _ _ _ _
      | exact ih1 _ _ _ _ _ _ _ _ _ _ _ _ _ _ _ _ _
      | exact pay_New.mono _ _ _ _
      | exact tarrylaw11_alive.mono _
      | exact LeO.none _
      | refine LeO.ite ?_ ?_
      | refine LeO.bind ?_ (fun _ => ?_)
theorem tarrylaw11_PayKeeps.mono : ∀ a0 a1 a2 k, LeO (tarrylaw11_PayKeeps.f k a0 a1 a2) (tarrylaw11_PayKeeps.f (k + 1) a0 a1 a2) := by
  intro a0 a1 a2 k
  obtain ⟨ih0, ih1⟩ := tarrylaw11_PayKeeps.mono_l k
  unfold tarrylaw11_PayKeeps.f
  repeat' first
      | (with_reducible exact ih0 _ _ _ _ _ _ _ _ _ _)
      | (with_reducible exact ih1 _ _ _ _ _ _ _ _ _ _ _ _ _ _ _ _ _)
      | (with_reducible exact pay_New.mono _ _ _ _)
      | (with_reducible exact tarrylaw11_alive.mono _)
      | (with_reducible exact LeO.refl _)
      | (with_reducible exact LeO.none _)
      | (with_reducible refine LeO.ite ?_ ?_)
      | (with_reducible refine LeO.bind ?_ (fun _ => ?_))
      | exact ih0 _ _ _ _ _ _ _ _ _ _
      | exact ih1 _ _ _ _ _ _ _ _ _ _ _ _ _ _ _ _ _
      | exact pay_New.mono _ _ _ _
      | exact tarrylaw11_alive.mono _
      | exact LeO.none _
      | refine LeO.ite ?_ ?_
      | refine LeO.bind ?_ (fun _ => ?_)
set_option maxHeartbeats 8000000 in
set_option maxRecDepth 100000 in
theorem tarrylaw11_PayKeeps.calls (k : Nat) (a0 : Int) (a1 : Int) (A2 : Option Addr) (c2 : Nat) (l2 : List (S39)) (r : Bool) (w : World) (hr2 : Kd.C k39 w A2 l2.length l2) (hc2 : l2.length ≤ c2) (h : tarrylaw11_PayKeeps.f k a0 a1 l2 = some r) :
    Calls Try.prog 6 #[.int .i64 a0, .int .i64 a1, .slice A2 l2.length c2] w fun e w' => e = .returned (.bool r) ∧ Below w.heap.size w w' := by
  have hu23 := Try.underlying23
  have hu39 := Try.underlying39
  have HR2 := Aside0.mk hr2
  have HC2 := Aside0.mk hc2
  clear hr2 hc2
  have HB := Aside0.mk (Below.refl w.heap.size w)
  have H : ((pay_New.f k (wrap64 (1 + (Int.tmod (wrap64 ((Int.tmod a0 100) + 100)) 100))) (wrap64 (1 + (Int.tmod (wrap64 ((Int.tmod a1 100) + 100)) 100))) 10).bind fun bt128 => (if bt128.2.2.2.2 = 0 then (tarrylaw11_PayKeeps.l0 k (wrap64 (1 + (Int.tmod (wrap64 ((Int.tmod a0 100) + 100)) 100))) (wrap64 (1 + (Int.tmod (wrap64 ((Int.tmod a1 100) + 100)) 100))) 0 l2 (l2.length : Int) 0 bt128.1 bt128.2.1 bt128.2.2.1 bt128.2.2.2.1) else (none))) = some r := h
  clear h
  replace H := Option.bind_eq_some_iff.mp H
  obtain ⟨⟨t128, t129, t130, t131, t132⟩, A40, H⟩ := H
  replace H : (if t132 = 0 then (tarrylaw11_PayKeeps.l0 k (wrap64 (1 + (Int.tmod (wrap64 ((Int.tmod a0 100) + 100)) 100))) (wrap64 (1 + (Int.tmod (wrap64 ((Int.tmod a1 100) + 100)) 100))) 0 l2 (l2.length : Int) 0 t128 t129 t130 t131) else (none)) = some r := H
  have A4 := Aside0.mk A40
  clear A40
  by_cases c5 : t132 = 0
  · rw [if_pos c5] at H
    have c5b0 : (t132 == 0) = true := beq_iff_eq.mpr c5
    have c5b1 : (t132 != 0) = false := bne_eq_false_iff_eq.mpr c5
    clear c5
    have H' := Aside0.mk H
    clear H
    go_enter Try.func6, Try.ntmps6
    go_wp2_with (first | ((with_reducible refine gate_callee (f := 7) rfl ?_); refine goesL_ (some 27) rfl rfl Try.func7 (by kernel_rfl) rfl #[.int .i64 (wrap64 (1 + (Int.tmod (wrap64 ((Int.tmod a0 100) + 100)) 100))), .int .i64 (wrap64 (1 + (Int.tmod (wrap64 ((Int.tmod a1 100) + 100)) 100))), .int .i64 10] rfl (by (try simp only [List.map_toArray, List.map_cons, List.map_nil]); first | done | rfl | (simp only [List.length_drop, List.length_take]; rfl)) ?_; (with_reducible refine (pay_New.calls k (wrap64 (1 + (Int.tmod (wrap64 ((Int.tmod a0 100) + 100)) 100))) (wrap64 (1 + (Int.tmod (wrap64 ((Int.tmod a1 100) + 100)) 100))) 10 t128 t129 t130 t131 t132 _ A4.out).mono ?_); rintro e w6 ⟨rfl, hb⟩; refine ⟨_, rfl, ?_⟩; have n0_ := hs_ HB hb; clear HB; have HB := n0_; clear n0_; (try clear hb); (try clear hb2); (try clear hk); (try clear hi)) | ((with_reducible refine gate_dst (N := 7) rfl ?_); refine box_event ?hg (N := 7) ?hd (cs := #[.int .i64 0, .int .i64 0, .int .i64 0, .int .i64 0]) (t := 23) ?hr ?_; (case hd => rfl); (case hg => rfl); (case hr => first | (go_simp; done) | (go_simp; rfl)); intro gb133 hg w7 hbox hb; have n0_ := hs_ HB hb; have n1_ := Aside0.mk (hbox); have n2_ := hz_ HB hg; have n3_ := hz_ HB hg; clear HB; have HB := n0_; have BK133 := n1_; have GW133 := n2_; have GE133 := n3_; clear n0_ n1_ n2_ n3_; clear hb hbox hg; have hcz8_0 : w7.cell? ⟨gb133, 0, none⟩ = some (.int .i64 0) := (blk_cell BK133.out 0).trans rfl; have hcz8_1 : w7.cell? ⟨gb133, 1, none⟩ = some (.int .i64 0) := (blk_cell BK133.out 1).trans rfl; have hcz8_2 : w7.cell? ⟨gb133, 2, none⟩ = some (.int .i64 0) := (blk_cell BK133.out 2).trans rfl; have hcz8_3 : w7.cell? ⟨gb133, 3, none⟩ = some (.int .i64 0) := (blk_cell BK133.out 3).trans rfl; have hfz8_0 := blk_frozen BK133.out 0; have hfz8_1 := blk_frozen BK133.out 1; have hfz8_2 := blk_frozen BK133.out 2; have hfz8_3 := blk_frozen BK133.out 3))
    go_loopg [9, 34] k (fun kq v9 v34 w' => ∃ (x9_1 : Int) (x34_1 : Int) (x134000_1 : Int) (x134001_1 : Int) (x134002_1 : Int) (x134003_1 : Int), v9 = .int .i64 x9_1 ∧ v34 = .int .i64 x34_1 ∧ Aside0 (tarrylaw11_PayKeeps.l0 kq (wrap64 (1 + (Int.tmod (wrap64 ((Int.tmod a0 100) + 100)) 100))) (wrap64 (1 + (Int.tmod (wrap64 ((Int.tmod a1 100) + 100)) 100))) x9_1 l2 (l2.length : Int) x34_1 x134000_1 x134001_1 x134002_1 x134003_1 = some r) ∧ Aside0 (kq ≤ k) ∧ Aside0 (w'.heap[gb133]? = some (.cells #[.int .i64 x134000_1, .int .i64 x134001_1, .int .i64 x134002_1, .int .i64 x134003_1] 23 (0, 0))) ∧ Aside0 (Below w.heap.size w w'))
    case atStart => exact ⟨(0), (0), (t128), (t129), (t130), (t131), (by first | rfl | (simp; done) | (simp [*]; done)), (by first | rfl | (simp; done) | (simp [*]; done)), H', ⟨Nat.le_refl _⟩, ⟨by (with_reducible repeat (first | refine blk_drewN ?_ _ | refine blk_drew ?_ | refine blk_alloc ?_ _)); refine blk_put (cs := #[.int .i64 t128, .int .i64 t129, .int .i64 t130, .int .i64 0]) ?_ 3 _ rfl; (with_reducible repeat (first | refine blk_drewN ?_ _ | refine blk_drew ?_ | refine blk_alloc ?_ _)); refine blk_put (cs := #[.int .i64 t128, .int .i64 t129, .int .i64 0, .int .i64 0]) ?_ 2 _ rfl; (with_reducible repeat (first | refine blk_drewN ?_ _ | refine blk_drew ?_ | refine blk_alloc ?_ _)); refine blk_put (cs := #[.int .i64 t128, .int .i64 0, .int .i64 0, .int .i64 0]) ?_ 1 _ rfl; (with_reducible repeat (first | refine blk_drewN ?_ _ | refine blk_drew ?_ | refine blk_alloc ?_ _)); refine blk_put (cs := #[.int .i64 0, .int .i64 0, .int .i64 0, .int .i64 0]) ?_ 0 _ rfl; (with_reducible repeat (first | refine blk_drewN ?_ _ | refine blk_drew ?_ | refine blk_alloc ?_ _)); exact BK133.out⟩, ⟨hh_ HB⟩⟩
    case round =>
      clear H'
      try clear c2
      try clear p2
      try clear c5
      try clear c5b0
      try clear c5b1
      try clear c6
      try clear p6
      try clear c7
      try clear hcz8_0
      try clear hcz8_1
      try clear hcz8_2
      try clear hcz8_3
      try clear hfz8_0
      try clear hfz8_1
      try clear hfz8_2
      try clear hfz8_3
      obtain ⟨x9_1, x34_1, x134000_1, x134001_1, x134002_1, x134003_1, rfl, rfl, HA, HK1, BK133, HB⟩ := hrel
      cases gk with
      | zero => exact absurd HA.out (by simp [tarrylaw11_PayKeeps.l0])
      | succ k1 =>
        have H := HA.out
        clear HA
        simp only [tarrylaw11_PayKeeps.l0] at H
        by_cases c9 : x34_1 < (l2.length : Int)
        · rw [if_pos c9] at H
          have c9b0 : decide (x34_1 < (l2.length : Int)) = true := decide_eq_true c9
          clear c9
          by_cases c10 : 0 ≤ x34_1
          · rw [if_pos c10] at H
            have c10b0 : decide (0 ≤ x34_1) = true := decide_eq_true c10
            clear c10
            by_cases c11 : x34_1 < (l2.length : Int)
            · rw [if_pos c11] at H
              have c11b0 : decide (x34_1 < (l2.length : Int)) = true := decide_eq_true c11
              clear c11
              by_cases c12 : x34_1 ≥ 30
              · rw [if_pos c12] at H
                have c12b0 : decide (30 ≤ x34_1) = true := decide_eq_true c12
                clear c12
                replace H := Option.bind_eq_some_iff.mp H
                obtain ⟨t167, A130, H⟩ := H
                replace H : (if t167 = true then (some (decide (x134001_1 ≤ (wrap64 ((wrap64 (1 + (Int.tmod (wrap64 ((Int.tmod a0 100) + 100)) 100))) * (wrap64 (1 + (Int.tmod (wrap64 ((Int.tmod a1 100) + 100)) 100)))))))) else (none)) = some r := H
                have A13 := Aside0.mk A130
                clear A130
                by_cases c14 : t167 = true
                · subst c14
                  have H1 : (some (decide (x134001_1 ≤ (wrap64 ((wrap64 (1 + (Int.tmod (wrap64 ((Int.tmod a0 100) + 100)) 100))) * (wrap64 (1 + (Int.tmod (wrap64 ((Int.tmod a1 100) + 100)) 100)))))))) = some r := by rw [if_pos rfl] at H; exact H
                  clear H
                  have H := H1
                  clear H1
                  obtain rfl := Option.some.inj H
                  have p165 : 0 ≤ (x34_1 : Int) := of_decide_eq_true (by first | (with_reducible assumption) | assumption)
                  have q165 : x34_1 < (l2.length : Int) := of_decide_eq_true (by first | (with_reducible assumption) | assumption)
                  obtain ⟨ad165, e165, hx165_0, hx165_1⟩ := at_T39 HR2.out x34_1 p165 q165
                  cases e165
                  replace hx165_0 := (HB.out.cell (World.block_lt_of_cell? w _ hx165_0)).trans hx165_0
                  replace hx165_1 := (HB.out.cell (World.block_lt_of_cell? w _ hx165_1)).trans hx165_1
                  replace p165 := eq_true p165
                  replace q165 := eq_true q165
                  go_wp2_with (first | ((with_reducible refine gate_dst (N := 11) rfl ?_); refine box_event ?hg (N := 11) ?hd (cs := #[.int .i64 0, .int .i64 0]) (t := 39) ?hr ?_; (case hd => rfl); (case hg => rfl); (case hr => first | (go_simp; done) | (go_simp; rfl)); intro gb166 hg w15 hbox hb; have n0_ := kb_ BK133 hb; have n1_ := hs_ HB hb; have n2_ := Aside0.mk (hbox); have n3_ := hz_ HB hg; have n4_ := hz_ HB hg; have n5_ := kn_ BK133 hg; have n6_ := kr_ BK133 hg; clear BK133; clear HB; have BK133 := n0_; have HB := n1_; have BK166 := n2_; have GW166 := n3_; have GE166 := n4_; have NB133_166 := n5_; have NB166_133 := n6_; clear n0_ n1_ n2_ n3_ n4_ n5_ n6_; clear hb hbox hg; have hnb16 := NB166_133.out; have hnc16 := NB133_166.out; have hcz17_0 : w15.cell? ⟨gb166, 0, none⟩ = some (.int .i64 0) := (blk_cell BK166.out 0).trans rfl; have hcz17_1 : w15.cell? ⟨gb166, 1, none⟩ = some (.int .i64 0) := (blk_cell BK166.out 1).trans rfl; have hfz17_0 := blk_frozen BK166.out 0; have hfz17_1 := blk_frozen BK166.out 1) | ((with_reducible refine gate_callee (f := 11) rfl ?_); refine goesL_ (some 133) rfl rfl Try.func11 (by kernel_rfl) rfl #[] rfl (by (try simp only [List.map_toArray, List.map_cons, List.map_nil]); first | done | rfl | (simp only [List.length_drop, List.length_take]; rfl)) ?_; (with_reducible refine (tarrylaw11_alive.calls k1  true _ A13.out).mono ?_); rintro e w18 ⟨rfl, hb⟩; refine ⟨_, rfl, ?_⟩; have n0_ := kb_ BK133 hb; have n1_ := Aside0.mk (blk_below (g := gb166) (o := .cells #[.int .i64 ((rd_T39 l2 x34_1).f0), .int .i64 ((rd_T39 l2 x34_1).f1)] 39 (0, 0)) (by (with_reducible repeat (first | refine blk_drewN ?_ _ | refine blk_drew ?_ | refine blk_alloc ?_ _)); refine blk_put (cs := #[.int .i64 ((rd_T39 l2 x34_1).f0), .int .i64 0]) ?_ 1 _ rfl; (with_reducible repeat (first | refine blk_drewN ?_ _ | refine blk_drew ?_ | refine blk_alloc ?_ _)); refine blk_put (cs := #[.int .i64 0, .int .i64 0]) ?_ 0 _ rfl; (with_reducible repeat (first | refine blk_drewN ?_ _ | refine blk_drew ?_ | refine blk_alloc ?_ _)); exact BK166.out) hb); have n2_ := hs_ HB hb; clear BK133; clear BK166; clear HB; have BK133 := n0_; have BK166 := n1_; have HB := n2_; clear n0_ n1_ n2_; (try clear hb); (try clear hb2); (try clear hk); (try clear hi); have hcz19_0 : w18.cell? ⟨gb133, 0, none⟩ = some (.int .i64 x134000_1) := (blk_cell BK133.out 0).trans rfl; have hcz19_1 : w18.cell? ⟨gb133, 1, none⟩ = some (.int .i64 x134001_1) := (blk_cell BK133.out 1).trans rfl; have hcz19_2 : w18.cell? ⟨gb133, 2, none⟩ = some (.int .i64 x134002_1) := (blk_cell BK133.out 2).trans rfl; have hcz19_3 : w18.cell? ⟨gb133, 3, none⟩ = some (.int .i64 x134003_1) := (blk_cell BK133.out 3).trans rfl; have hfz19_0 := blk_frozen BK133.out 0; have hfz19_1 := blk_frozen BK133.out 1; have hfz19_2 := blk_frozen BK133.out 2; have hfz19_3 := blk_frozen BK133.out 3))
                  go_ret
                  exact ⟨by first | rfl | (simp [errW_none, errW_some] <;> rfl) | (simp [*, errW_none, errW_some] <;> rfl), by repeat (first | (with_reducible first | exact HB.out | apply below_alloc | apply pw_below_drewN | apply below_drew1 | refine below_set ?_ GE133.out | refine below_set ?_ GE166.out) | exact HB.out)⟩
                · replace c14 := Bool.eq_false_iff.mpr c14
                  subst c14
                  have H1 : (none) = some r := by rw [if_neg (show ¬ (false = true) by decide)] at H; exact H
                  clear H
                  have H := H1
                  clear H1
                  exact absurd H (by simp)
              · rw [if_neg c12] at H
                have c12b0 : decide (30 ≤ x34_1) = false := decide_eq_false c12
                clear c12
                have HC20 := Aside0.mk H
                clear H
                have p165 : 0 ≤ (x34_1 : Int) := of_decide_eq_true (by first | (with_reducible assumption) | assumption)
                have q165 : x34_1 < (l2.length : Int) := of_decide_eq_true (by first | (with_reducible assumption) | assumption)
                obtain ⟨ad165, e165, hx165_0, hx165_1⟩ := at_T39 HR2.out x34_1 p165 q165
                cases e165
                replace hx165_0 := (HB.out.cell (World.block_lt_of_cell? w _ hx165_0)).trans hx165_0
                replace hx165_1 := (HB.out.cell (World.block_lt_of_cell? w _ hx165_1)).trans hx165_1
                replace p165 := eq_true p165
                replace q165 := eq_true q165
                go_upto_block 2 with (first | ((with_reducible refine gate_dst (N := 11) rfl ?_); refine box_event ?hg (N := 11) ?hd (cs := #[.int .i64 0, .int .i64 0]) (t := 39) ?hr ?_; (case hd => rfl); (case hg => rfl); (case hr => first | (go_simp; done) | (go_simp; rfl)); intro gb166 hg w21 hbox hb; have n0_ := kb_ BK133 hb; have n1_ := hs_ HB hb; have n2_ := Aside0.mk (hbox); have n3_ := hz_ HB hg; have n4_ := hz_ HB hg; have n5_ := kn_ BK133 hg; have n6_ := kr_ BK133 hg; clear BK133; clear HB; have BK133 := n0_; have HB := n1_; have BK166 := n2_; have GW166 := n3_; have GE166 := n4_; have NB133_166 := n5_; have NB166_133 := n6_; clear n0_ n1_ n2_ n3_ n4_ n5_ n6_; clear hb hbox hg; have hnb22 := NB166_133.out; have hnc22 := NB133_166.out; have hcz23_0 : w21.cell? ⟨gb166, 0, none⟩ = some (.int .i64 0) := (blk_cell BK166.out 0).trans rfl; have hcz23_1 : w21.cell? ⟨gb166, 1, none⟩ = some (.int .i64 0) := (blk_cell BK166.out 1).trans rfl; have hfz23_0 := blk_frozen BK166.out 0; have hfz23_1 := blk_frozen BK166.out 1) | ((with_reducible refine gate_dst (N := 12) rfl ?_); refine box_event ?hg (N := 12) ?hd (cs := #[.int .i64 0, .int .i64 0, .int .i64 0, .int .i64 0]) (t := 23) ?hr ?_; (case hd => rfl); (case hg => rfl); (case hr => first | (go_simp; done) | (go_simp; rfl)); intro gb180 hg w24 hbox hb; have n0_ := kb_ BK133 hb; have n1_ := Aside0.mk (blk_below (g := gb166) (o := .cells #[.int .i64 ((rd_T39 l2 x34_1).f0), .int .i64 ((rd_T39 l2 x34_1).f1)] 39 (0, 0)) (by (with_reducible repeat (first | refine blk_drewN ?_ _ | refine blk_drew ?_ | refine blk_alloc ?_ _)); refine blk_put (cs := #[.int .i64 ((rd_T39 l2 x34_1).f0), .int .i64 0]) ?_ 1 _ rfl; (with_reducible repeat (first | refine blk_drewN ?_ _ | refine blk_drew ?_ | refine blk_alloc ?_ _)); refine blk_put (cs := #[.int .i64 0, .int .i64 0]) ?_ 0 _ rfl; (with_reducible repeat (first | refine blk_drewN ?_ _ | refine blk_drew ?_ | refine blk_alloc ?_ _)); exact BK166.out) hb); have n2_ := hs_ HB hb; have n3_ := Aside0.mk (hbox); have n4_ := hz_ HB hg; have n5_ := hz_ HB hg; have n6_ := kn_ BK133 hg; have n7_ := kr_ BK133 hg; have n8_ := Aside0.mk ((by rw [hg]; exact Nat.ne_of_lt (blk_lt (g := gb166) (o := .cells #[.int .i64 ((rd_T39 l2 x34_1).f0), .int .i64 ((rd_T39 l2 x34_1).f1)] 39 (0, 0)) (by (with_reducible repeat (first | refine blk_drewN ?_ _ | refine blk_drew ?_ | refine blk_alloc ?_ _)); refine blk_put (cs := #[.int .i64 ((rd_T39 l2 x34_1).f0), .int .i64 0]) ?_ 1 _ rfl; (with_reducible repeat (first | refine blk_drewN ?_ _ | refine blk_drew ?_ | refine blk_alloc ?_ _)); refine blk_put (cs := #[.int .i64 0, .int .i64 0]) ?_ 0 _ rfl; (with_reducible repeat (first | refine blk_drewN ?_ _ | refine blk_drew ?_ | refine blk_alloc ?_ _)); exact BK166.out)) : gb166 ≠ gb180)); have n9_ := Aside0.mk ((by rw [hg]; exact Nat.ne_of_gt (blk_lt (g := gb166) (o := .cells #[.int .i64 ((rd_T39 l2 x34_1).f0), .int .i64 ((rd_T39 l2 x34_1).f1)] 39 (0, 0)) (by (with_reducible repeat (first | refine blk_drewN ?_ _ | refine blk_drew ?_ | refine blk_alloc ?_ _)); refine blk_put (cs := #[.int .i64 ((rd_T39 l2 x34_1).f0), .int .i64 0]) ?_ 1 _ rfl; (with_reducible repeat (first | refine blk_drewN ?_ _ | refine blk_drew ?_ | refine blk_alloc ?_ _)); refine blk_put (cs := #[.int .i64 0, .int .i64 0]) ?_ 0 _ rfl; (with_reducible repeat (first | refine blk_drewN ?_ _ | refine blk_drew ?_ | refine blk_alloc ?_ _)); exact BK166.out)) : gb180 ≠ gb166)); clear BK133; clear BK166; clear HB; have BK133 := n0_; have BK166 := n1_; have HB := n2_; have BK180 := n3_; have GW180 := n4_; have GE180 := n5_; have NB133_180 := n6_; have NB180_133 := n7_; have NB166_180 := n8_; have NB180_166 := n9_; clear n0_ n1_ n2_ n3_ n4_ n5_ n6_ n7_ n8_ n9_; clear hb hbox hg; have hnb25 := NB166_180.out; have hnc25 := NB180_166.out; have hcz26_0 : w24.cell? ⟨gb166, 0, none⟩ = some (.int .i64 ((rd_T39 l2 x34_1).f0)) := (blk_cell BK166.out 0).trans rfl; have hcz26_1 : w24.cell? ⟨gb166, 1, none⟩ = some (.int .i64 ((rd_T39 l2 x34_1).f1)) := (blk_cell BK166.out 1).trans rfl; have hfz26_0 := blk_frozen BK166.out 0; have hfz26_1 := blk_frozen BK166.out 1))
                (try simp only [Act.put, List.setIfInBounds_toArray, List.set_cons_zero, List.set_cons_succ])
                go_cut [9, 13] (fun v9 v13 wc => ∃ (kq : Nat) (x9_19 : Int) (x13_19 : Int) (x181000_19 : Int) (x181001_19 : Int) (x181002_19 : Int) (x181003_19 : Int), v9 = .int .i64 x9_19 ∧ v13 = .int .i64 x13_19 ∧ Aside0 (tarrylaw11_PayKeeps.j1 kq (wrap64 (1 + (Int.tmod (wrap64 ((Int.tmod a0 100) + 100)) 100))) (wrap64 (1 + (Int.tmod (wrap64 ((Int.tmod a1 100) + 100)) 100))) x9_19 x13_19 l2 (l2.length : Int) x34_1 x134000_1 x134001_1 x134002_1 x134003_1 ((rd_T39 l2 x34_1).f0) ((rd_T39 l2 x34_1).f1) x181000_19 x181001_19 x181002_19 x181003_19 = some r) ∧ Aside0 (kq ≤ k1) ∧ Aside0 (wc.heap[gb133]? = some (.cells #[.int .i64 x134000_1, .int .i64 x134001_1, .int .i64 x134002_1, .int .i64 x134003_1] 23 (0, 0))) ∧ Aside0 (wc.heap[gb166]? = some (.cells #[.int .i64 ((rd_T39 l2 x34_1).f0), .int .i64 ((rd_T39 l2 x34_1).f1)] 39 (0, 0))) ∧ Aside0 (wc.heap[gb180]? = some (.cells #[.int .i64 x181000_19, .int .i64 x181001_19, .int .i64 x181002_19, .int .i64 x181003_19] 23 (0, 0))) ∧ Aside0 (Below w.heap.size w wc))
                case first =>
                  have H := HC20.out
                  clear HC20
                  by_cases c27 : (Int.tmod (wrap64 ((Int.tmod ((rd_T39 l2 x34_1).f0) 4) + 4)) 4) = 0
                  · rw [if_pos c27] at H
                    have c27b0 : ((Int.tmod (wrap64 ((Int.tmod ((rd_T39 l2 x34_1).f0) 4) + 4)) 4) == 0) = true := beq_iff_eq.mpr c27
                    have c27b1 : ((Int.tmod (wrap64 ((Int.tmod ((rd_T39 l2 x34_1).f0) 4) + 4)) 4) != 0) = false := bne_eq_false_iff_eq.mpr c27
                    clear c27
                    (first | rw [c27b0] | (simp only [i64_w, i32_w]; rw [c27b0]) | skip)
                    replace H := Option.bind_eq_some_iff.mp H
                    obtain ⟨⟨t181, t182, t183, t184, t185, t186⟩, A280, H⟩ := H
                    replace H : (tarrylaw11_PayKeeps.j1 k1 (wrap64 (1 + (Int.tmod (wrap64 ((Int.tmod a0 100) + 100)) 100))) (wrap64 (1 + (Int.tmod (wrap64 ((Int.tmod a1 100) + 100)) 100))) x9_1 t186 l2 (l2.length : Int) x34_1 x134000_1 x134001_1 x134002_1 x134003_1 ((rd_T39 l2 x34_1).f0) ((rd_T39 l2 x34_1).f1) t181 t182 t183 t184) = some r := H
                    have A28 := Aside0.mk A280
                    clear A280
                    have H' := Aside0.mk H
                    clear H
                    have hnb29 := NB133_166.out
                    have hnc29 := NB166_133.out
                    have hnb30 := NB133_180.out
                    have hnc30 := NB180_133.out
                    have hcz31_0 : w24.cell? ⟨gb133, 0, none⟩ = some (.int .i64 x134000_1) := (blk_cell BK133.out 0).trans rfl
                    have hcz31_1 : w24.cell? ⟨gb133, 1, none⟩ = some (.int .i64 x134001_1) := (blk_cell BK133.out 1).trans rfl
                    have hcz31_2 : w24.cell? ⟨gb133, 2, none⟩ = some (.int .i64 x134002_1) := (blk_cell BK133.out 2).trans rfl
                    have hcz31_3 : w24.cell? ⟨gb133, 3, none⟩ = some (.int .i64 x134003_1) := (blk_cell BK133.out 3).trans rfl
                    have hfz31_0 := blk_frozen BK133.out 0
                    have hfz31_1 := blk_frozen BK133.out 1
                    have hfz31_2 := blk_frozen BK133.out 2
                    have hfz31_3 := blk_frozen BK133.out 3
                    have hnb32 := NB166_180.out
                    have hnc32 := NB180_166.out
                    have hcz33_0 : w24.cell? ⟨gb166, 0, none⟩ = some (.int .i64 ((rd_T39 l2 x34_1).f0)) := (blk_cell BK166.out 0).trans rfl
                    have hcz33_1 : w24.cell? ⟨gb166, 1, none⟩ = some (.int .i64 ((rd_T39 l2 x34_1).f1)) := (blk_cell BK166.out 1).trans rfl
                    have hfz33_0 := blk_frozen BK166.out 0
                    have hfz33_1 := blk_frozen BK166.out 1
                    go_wp2_with (first | ((with_reducible refine gate_callee (f := 14) rfl ?_); refine goesL_ (some 57) rfl rfl Try.func14 (by kernel_rfl) rfl #[.agg #[.int .i64 x134000_1, .int .i64 x134001_1, .int .i64 x134002_1, .int .i64 x134003_1], .int .i64 ((rd_T39 l2 x34_1).f1)] rfl (by (try simp only [List.map_toArray, List.map_cons, List.map_nil]); first | done | rfl | (simp only [List.length_drop, List.length_take]; rfl)) ?_; (with_reducible refine (pay_Lapse.calls x134000_1 x134001_1 x134002_1 x134003_1 ((rd_T39 l2 x34_1).f1) t181 t182 t183 t184 t185 t186 _ A28.out).mono ?_); rintro e w34 ⟨rfl, hb⟩; refine ⟨_, rfl, ?_⟩; have n0_ := kb_ BK133 hb; have n1_ := kb_ BK166 hb; have n2_ := kb_ BK180 hb; have n3_ := hs_ HB hb; clear BK133; clear BK166; clear BK180; clear HB; have BK133 := n0_; have BK166 := n1_; have BK180 := n2_; have HB := n3_; clear n0_ n1_ n2_ n3_; (try clear hb); (try clear hb2); (try clear hk); (try clear hi); have hcz35_0 : w34.cell? ⟨gb180, 0, none⟩ = some (.int .i64 0) := (blk_cell BK180.out 0).trans rfl; have hcz35_1 : w34.cell? ⟨gb180, 1, none⟩ = some (.int .i64 0) := (blk_cell BK180.out 1).trans rfl; have hcz35_2 : w34.cell? ⟨gb180, 2, none⟩ = some (.int .i64 0) := (blk_cell BK180.out 2).trans rfl; have hcz35_3 : w34.cell? ⟨gb180, 3, none⟩ = some (.int .i64 0) := (blk_cell BK180.out 3).trans rfl; have hfz35_0 := blk_frozen BK180.out 0; have hfz35_1 := blk_frozen BK180.out 1; have hfz35_2 := blk_frozen BK180.out 2; have hfz35_3 := blk_frozen BK180.out 3))
                    go_meet
                    case rel => exact ⟨_, (x9_1), (t186), (t181), (t182), (t183), (t184), (by first | rfl | (simp; done) | (simp [*]; done)), (by first | rfl | (simp; done) | (simp [*]; done)), H', ⟨by have := HK1.out; first | omega | exact Nat.le_refl _⟩, ⟨kk_ BK133⟩, ⟨kk_ BK166⟩, ⟨by (with_reducible repeat (first | refine blk_drewN ?_ _ | refine blk_drew ?_ | refine blk_alloc ?_ _)); refine blk_put (cs := #[.int .i64 t181, .int .i64 t182, .int .i64 t183, .int .i64 0]) ?_ 3 _ rfl; (with_reducible repeat (first | refine blk_drewN ?_ _ | refine blk_drew ?_ | refine blk_alloc ?_ _)); refine blk_put (cs := #[.int .i64 t181, .int .i64 t182, .int .i64 0, .int .i64 0]) ?_ 2 _ rfl; (with_reducible repeat (first | refine blk_drewN ?_ _ | refine blk_drew ?_ | refine blk_alloc ?_ _)); refine blk_put (cs := #[.int .i64 t181, .int .i64 0, .int .i64 0, .int .i64 0]) ?_ 1 _ rfl; (with_reducible repeat (first | refine blk_drewN ?_ _ | refine blk_drew ?_ | refine blk_alloc ?_ _)); refine blk_put (cs := #[.int .i64 0, .int .i64 0, .int .i64 0, .int .i64 0]) ?_ 0 _ rfl; (with_reducible repeat (first | refine blk_drewN ?_ _ | refine blk_drew ?_ | refine blk_alloc ?_ _)); exact BK180.out⟩, ⟨hh_ HB⟩⟩
                  · rw [if_neg c27] at H
                    have c27b0 : ((Int.tmod (wrap64 ((Int.tmod ((rd_T39 l2 x34_1).f0) 4) + 4)) 4) == 0) = false := beq_eq_false_iff_ne.mpr c27
                    have c27b1 : ((Int.tmod (wrap64 ((Int.tmod ((rd_T39 l2 x34_1).f0) 4) + 4)) 4) != 0) = true := bne_iff_ne.mpr c27
                    (first | rw [c27b0] | (simp only [i64_w, i32_w]; rw [c27b0]) | skip)
                    by_cases c36 : (Int.tmod (wrap64 ((Int.tmod ((rd_T39 l2 x34_1).f0) 4) + 4)) 4) = 1
                    · rw [if_pos c36] at H
                      have c36b0 : ((Int.tmod (wrap64 ((Int.tmod ((rd_T39 l2 x34_1).f0) 4) + 4)) 4) == 1) = true := beq_iff_eq.mpr c36
                      have c36b1 : ((Int.tmod (wrap64 ((Int.tmod ((rd_T39 l2 x34_1).f0) 4) + 4)) 4) != 1) = false := bne_eq_false_iff_eq.mpr c36
                      clear c36
                      replace H := Option.bind_eq_some_iff.mp H
                      obtain ⟨⟨t187, t188, t189, t190, t191⟩, A370, H⟩ := H
                      replace H : (tarrylaw11_PayKeeps.j1 k1 (wrap64 (1 + (Int.tmod (wrap64 ((Int.tmod a0 100) + 100)) 100))) (wrap64 (1 + (Int.tmod (wrap64 ((Int.tmod a1 100) + 100)) 100))) x9_1 t191 l2 (l2.length : Int) x34_1 x134000_1 x134001_1 x134002_1 x134003_1 ((rd_T39 l2 x34_1).f0) ((rd_T39 l2 x34_1).f1) t187 t188 t189 t190) = some r := H
                      have A37 := Aside0.mk A370
                      clear A370
                      have H' := Aside0.mk H
                      clear H
                      have hnb38 := NB133_166.out
                      have hnc38 := NB166_133.out
                      have hnb39 := NB133_180.out
                      have hnc39 := NB180_133.out
                      have hcz40_0 : w24.cell? ⟨gb133, 0, none⟩ = some (.int .i64 x134000_1) := (blk_cell BK133.out 0).trans rfl
                      have hcz40_1 : w24.cell? ⟨gb133, 1, none⟩ = some (.int .i64 x134001_1) := (blk_cell BK133.out 1).trans rfl
                      have hcz40_2 : w24.cell? ⟨gb133, 2, none⟩ = some (.int .i64 x134002_1) := (blk_cell BK133.out 2).trans rfl
                      have hcz40_3 : w24.cell? ⟨gb133, 3, none⟩ = some (.int .i64 x134003_1) := (blk_cell BK133.out 3).trans rfl
                      have hfz40_0 := blk_frozen BK133.out 0
                      have hfz40_1 := blk_frozen BK133.out 1
                      have hfz40_2 := blk_frozen BK133.out 2
                      have hfz40_3 := blk_frozen BK133.out 3
                      have hnb41 := NB166_180.out
                      have hnc41 := NB180_166.out
                      have hcz42_0 : w24.cell? ⟨gb166, 0, none⟩ = some (.int .i64 ((rd_T39 l2 x34_1).f0)) := (blk_cell BK166.out 0).trans rfl
                      have hcz42_1 : w24.cell? ⟨gb166, 1, none⟩ = some (.int .i64 ((rd_T39 l2 x34_1).f1)) := (blk_cell BK166.out 1).trans rfl
                      have hfz42_0 := blk_frozen BK166.out 0
                      have hfz42_1 := blk_frozen BK166.out 1
                      go_wp2_with (first | ((with_reducible refine gate_callee (f := 16) rfl ?_); refine goesL_ (some 67) rfl rfl Try.func16 (by kernel_rfl) rfl #[.agg #[.int .i64 x134000_1, .int .i64 x134001_1, .int .i64 x134002_1, .int .i64 x134003_1], .int .i64 ((rd_T39 l2 x34_1).f1)] rfl (by (try simp only [List.map_toArray, List.map_cons, List.map_nil]); first | done | rfl | (simp only [List.length_drop, List.length_take]; rfl)) ?_; (with_reducible refine (pay_Renew.calls x134000_1 x134001_1 x134002_1 x134003_1 ((rd_T39 l2 x34_1).f1) t187 t188 t189 t190 t191 _ A37.out).mono ?_); rintro e w43 ⟨rfl, hb⟩; refine ⟨_, rfl, ?_⟩; have n0_ := kb_ BK133 hb; have n1_ := kb_ BK166 hb; have n2_ := kb_ BK180 hb; have n3_ := hs_ HB hb; clear BK133; clear BK166; clear BK180; clear HB; have BK133 := n0_; have BK166 := n1_; have BK180 := n2_; have HB := n3_; clear n0_ n1_ n2_ n3_; (try clear hb); (try clear hb2); (try clear hk); (try clear hi); have hcz44_0 : w43.cell? ⟨gb180, 0, none⟩ = some (.int .i64 0) := (blk_cell BK180.out 0).trans rfl; have hcz44_1 : w43.cell? ⟨gb180, 1, none⟩ = some (.int .i64 0) := (blk_cell BK180.out 1).trans rfl; have hcz44_2 : w43.cell? ⟨gb180, 2, none⟩ = some (.int .i64 0) := (blk_cell BK180.out 2).trans rfl; have hcz44_3 : w43.cell? ⟨gb180, 3, none⟩ = some (.int .i64 0) := (blk_cell BK180.out 3).trans rfl; have hfz44_0 := blk_frozen BK180.out 0; have hfz44_1 := blk_frozen BK180.out 1; have hfz44_2 := blk_frozen BK180.out 2; have hfz44_3 := blk_frozen BK180.out 3))
                      go_meet
                      case rel => exact ⟨_, (x9_1), (t191), (t187), (t188), (t189), (t190), (by first | rfl | (simp; done) | (simp [*]; done)), (by first | rfl | (simp; done) | (simp [*]; done)), H', ⟨by have := HK1.out; first | omega | exact Nat.le_refl _⟩, ⟨kk_ BK133⟩, ⟨kk_ BK166⟩, ⟨by (with_reducible repeat (first | refine blk_drewN ?_ _ | refine blk_drew ?_ | refine blk_alloc ?_ _)); refine blk_put (cs := #[.int .i64 t187, .int .i64 t188, .int .i64 t189, .int .i64 0]) ?_ 3 _ rfl; (with_reducible repeat (first | refine blk_drewN ?_ _ | refine blk_drew ?_ | refine blk_alloc ?_ _)); refine blk_put (cs := #[.int .i64 t187, .int .i64 t188, .int .i64 0, .int .i64 0]) ?_ 2 _ rfl; (with_reducible repeat (first | refine blk_drewN ?_ _ | refine blk_drew ?_ | refine blk_alloc ?_ _)); refine blk_put (cs := #[.int .i64 t187, .int .i64 0, .int .i64 0, .int .i64 0]) ?_ 1 _ rfl; (with_reducible repeat (first | refine blk_drewN ?_ _ | refine blk_drew ?_ | refine blk_alloc ?_ _)); refine blk_put (cs := #[.int .i64 0, .int .i64 0, .int .i64 0, .int .i64 0]) ?_ 0 _ rfl; (with_reducible repeat (first | refine blk_drewN ?_ _ | refine blk_drew ?_ | refine blk_alloc ?_ _)); exact BK180.out⟩, ⟨hh_ HB⟩⟩
                    · rw [if_neg c36] at H
                      have c36b0 : ((Int.tmod (wrap64 ((Int.tmod ((rd_T39 l2 x34_1).f0) 4) + 4)) 4) == 1) = false := beq_eq_false_iff_ne.mpr c36
                      have c36b1 : ((Int.tmod (wrap64 ((Int.tmod ((rd_T39 l2 x34_1).f0) 4) + 4)) 4) != 1) = true := bne_iff_ne.mpr c36
                      by_cases c45 : (Int.tmod (wrap64 ((Int.tmod ((rd_T39 l2 x34_1).f0) 4) + 4)) 4) = 2
                      · rw [if_pos c45] at H
                        have c45b0 : ((Int.tmod (wrap64 ((Int.tmod ((rd_T39 l2 x34_1).f0) 4) + 4)) 4) == 2) = true := beq_iff_eq.mpr c45
                        have c45b1 : ((Int.tmod (wrap64 ((Int.tmod ((rd_T39 l2 x34_1).f0) 4) + 4)) 4) != 2) = false := bne_eq_false_iff_eq.mpr c45
                        clear c45
                        replace H := Option.bind_eq_some_iff.mp H
                        obtain ⟨⟨t192, t193, t194, t195, t196⟩, A460, H⟩ := H
                        replace H : (if t196 = 0 then (tarrylaw11_PayKeeps.j1 k1 (wrap64 (1 + (Int.tmod (wrap64 ((Int.tmod a0 100) + 100)) 100))) (wrap64 (1 + (Int.tmod (wrap64 ((Int.tmod a1 100) + 100)) 100))) (wrap64 (x9_1 + ((rd_T39 l2 x34_1).f1))) t196 l2 (l2.length : Int) x34_1 x134000_1 x134001_1 x134002_1 x134003_1 ((rd_T39 l2 x34_1).f0) ((rd_T39 l2 x34_1).f1) t192 t193 t194 t195) else (tarrylaw11_PayKeeps.j1 k1 (wrap64 (1 + (Int.tmod (wrap64 ((Int.tmod a0 100) + 100)) 100))) (wrap64 (1 + (Int.tmod (wrap64 ((Int.tmod a1 100) + 100)) 100))) x9_1 t196 l2 (l2.length : Int) x34_1 x134000_1 x134001_1 x134002_1 x134003_1 ((rd_T39 l2 x34_1).f0) ((rd_T39 l2 x34_1).f1) t192 t193 t194 t195)) = some r := H
                        have A46 := Aside0.mk A460
                        clear A460
                        by_cases c47 : t196 = 0
                        · rw [if_pos c47] at H
                          have c47b0 : (t196 == 0) = true := beq_iff_eq.mpr c47
                          have c47b1 : (t196 != 0) = false := bne_eq_false_iff_eq.mpr c47
                          clear c47
                          have H' := Aside0.mk H
                          clear H
                          have hnb48 := NB133_166.out
                          have hnc48 := NB166_133.out
                          have hnb49 := NB133_180.out
                          have hnc49 := NB180_133.out
                          have hcz50_0 : w24.cell? ⟨gb133, 0, none⟩ = some (.int .i64 x134000_1) := (blk_cell BK133.out 0).trans rfl
                          have hcz50_1 : w24.cell? ⟨gb133, 1, none⟩ = some (.int .i64 x134001_1) := (blk_cell BK133.out 1).trans rfl
                          have hcz50_2 : w24.cell? ⟨gb133, 2, none⟩ = some (.int .i64 x134002_1) := (blk_cell BK133.out 2).trans rfl
                          have hcz50_3 : w24.cell? ⟨gb133, 3, none⟩ = some (.int .i64 x134003_1) := (blk_cell BK133.out 3).trans rfl
                          have hfz50_0 := blk_frozen BK133.out 0
                          have hfz50_1 := blk_frozen BK133.out 1
                          have hfz50_2 := blk_frozen BK133.out 2
                          have hfz50_3 := blk_frozen BK133.out 3
                          have hnb51 := NB166_180.out
                          have hnc51 := NB180_166.out
                          have hcz52_0 : w24.cell? ⟨gb166, 0, none⟩ = some (.int .i64 ((rd_T39 l2 x34_1).f0)) := (blk_cell BK166.out 0).trans rfl
                          have hcz52_1 : w24.cell? ⟨gb166, 1, none⟩ = some (.int .i64 ((rd_T39 l2 x34_1).f1)) := (blk_cell BK166.out 1).trans rfl
                          have hfz52_0 := blk_frozen BK166.out 0
                          have hfz52_1 := blk_frozen BK166.out 1
                          go_wp2_with (first | ((with_reducible refine gate_callee (f := 13) rfl ?_); refine goesL_ (some 76) rfl rfl Try.func13 (by kernel_rfl) rfl #[.agg #[.int .i64 x134000_1, .int .i64 x134001_1, .int .i64 x134002_1, .int .i64 x134003_1], .int .i64 ((rd_T39 l2 x34_1).f1)] rfl (by (try simp only [List.map_toArray, List.map_cons, List.map_nil]); first | done | rfl | (simp only [List.length_drop, List.length_take]; rfl)) ?_; (with_reducible refine (pay_Catch.calls x134000_1 x134001_1 x134002_1 x134003_1 ((rd_T39 l2 x34_1).f1) t192 t193 t194 t195 t196 _ A46.out).mono ?_); rintro e w53 ⟨rfl, hb⟩; refine ⟨_, rfl, ?_⟩; have n0_ := kb_ BK133 hb; have n1_ := kb_ BK166 hb; have n2_ := kb_ BK180 hb; have n3_ := hs_ HB hb; clear BK133; clear BK166; clear BK180; clear HB; have BK133 := n0_; have BK166 := n1_; have BK180 := n2_; have HB := n3_; clear n0_ n1_ n2_ n3_; (try clear hb); (try clear hb2); (try clear hk); (try clear hi); have hcz54_0 : w53.cell? ⟨gb180, 0, none⟩ = some (.int .i64 0) := (blk_cell BK180.out 0).trans rfl; have hcz54_1 : w53.cell? ⟨gb180, 1, none⟩ = some (.int .i64 0) := (blk_cell BK180.out 1).trans rfl; have hcz54_2 : w53.cell? ⟨gb180, 2, none⟩ = some (.int .i64 0) := (blk_cell BK180.out 2).trans rfl; have hcz54_3 : w53.cell? ⟨gb180, 3, none⟩ = some (.int .i64 0) := (blk_cell BK180.out 3).trans rfl; have hfz54_0 := blk_frozen BK180.out 0; have hfz54_1 := blk_frozen BK180.out 1; have hfz54_2 := blk_frozen BK180.out 2; have hfz54_3 := blk_frozen BK180.out 3; have hcz55_0 : w53.cell? ⟨gb166, 0, none⟩ = some (.int .i64 ((rd_T39 l2 x34_1).f0)) := (blk_cell BK166.out 0).trans rfl; have hcz55_1 : w53.cell? ⟨gb166, 1, none⟩ = some (.int .i64 ((rd_T39 l2 x34_1).f1)) := (blk_cell BK166.out 1).trans rfl; have hfz55_0 := blk_frozen BK166.out 0; have hfz55_1 := blk_frozen BK166.out 1))
                          go_meet
                          case rel => exact ⟨_, (wrap64 (x9_1 + ((rd_T39 l2 x34_1).f1))), (t196), (t192), (t193), (t194), (t195), (by first | rfl | (simp; done) | (simp [*]; done)), (by first | rfl | (simp; done) | (simp [*]; done)), H', ⟨by have := HK1.out; first | omega | exact Nat.le_refl _⟩, ⟨kk_ BK133⟩, ⟨kk_ BK166⟩, ⟨by (with_reducible repeat (first | refine blk_drewN ?_ _ | refine blk_drew ?_ | refine blk_alloc ?_ _)); refine blk_put (cs := #[.int .i64 t192, .int .i64 t193, .int .i64 t194, .int .i64 0]) ?_ 3 _ rfl; (with_reducible repeat (first | refine blk_drewN ?_ _ | refine blk_drew ?_ | refine blk_alloc ?_ _)); refine blk_put (cs := #[.int .i64 t192, .int .i64 t193, .int .i64 0, .int .i64 0]) ?_ 2 _ rfl; (with_reducible repeat (first | refine blk_drewN ?_ _ | refine blk_drew ?_ | refine blk_alloc ?_ _)); refine blk_put (cs := #[.int .i64 t192, .int .i64 0, .int .i64 0, .int .i64 0]) ?_ 1 _ rfl; (with_reducible repeat (first | refine blk_drewN ?_ _ | refine blk_drew ?_ | refine blk_alloc ?_ _)); refine blk_put (cs := #[.int .i64 0, .int .i64 0, .int .i64 0, .int .i64 0]) ?_ 0 _ rfl; (with_reducible repeat (first | refine blk_drewN ?_ _ | refine blk_drew ?_ | refine blk_alloc ?_ _)); exact BK180.out⟩, ⟨hh_ HB⟩⟩
                        · rw [if_neg c47] at H
                          have c47b0 : (t196 == 0) = false := beq_eq_false_iff_ne.mpr c47
                          have c47b1 : (t196 != 0) = true := bne_iff_ne.mpr c47
                          have H' := Aside0.mk H
                          clear H
                          have hnb56 := NB133_166.out
                          have hnc56 := NB166_133.out
                          have hnb57 := NB133_180.out
                          have hnc57 := NB180_133.out
                          have hcz58_0 : w24.cell? ⟨gb133, 0, none⟩ = some (.int .i64 x134000_1) := (blk_cell BK133.out 0).trans rfl
                          have hcz58_1 : w24.cell? ⟨gb133, 1, none⟩ = some (.int .i64 x134001_1) := (blk_cell BK133.out 1).trans rfl
                          have hcz58_2 : w24.cell? ⟨gb133, 2, none⟩ = some (.int .i64 x134002_1) := (blk_cell BK133.out 2).trans rfl
                          have hcz58_3 : w24.cell? ⟨gb133, 3, none⟩ = some (.int .i64 x134003_1) := (blk_cell BK133.out 3).trans rfl
                          have hfz58_0 := blk_frozen BK133.out 0
                          have hfz58_1 := blk_frozen BK133.out 1
                          have hfz58_2 := blk_frozen BK133.out 2
                          have hfz58_3 := blk_frozen BK133.out 3
                          have hnb59 := NB166_180.out
                          have hnc59 := NB180_166.out
                          have hcz60_0 : w24.cell? ⟨gb166, 0, none⟩ = some (.int .i64 ((rd_T39 l2 x34_1).f0)) := (blk_cell BK166.out 0).trans rfl
                          have hcz60_1 : w24.cell? ⟨gb166, 1, none⟩ = some (.int .i64 ((rd_T39 l2 x34_1).f1)) := (blk_cell BK166.out 1).trans rfl
                          have hfz60_0 := blk_frozen BK166.out 0
                          have hfz60_1 := blk_frozen BK166.out 1
                          go_wp2_with (first | ((with_reducible refine gate_callee (f := 13) rfl ?_); refine goesL_ (some 76) rfl rfl Try.func13 (by kernel_rfl) rfl #[.agg #[.int .i64 x134000_1, .int .i64 x134001_1, .int .i64 x134002_1, .int .i64 x134003_1], .int .i64 ((rd_T39 l2 x34_1).f1)] rfl (by (try simp only [List.map_toArray, List.map_cons, List.map_nil]); first | done | rfl | (simp only [List.length_drop, List.length_take]; rfl)) ?_; (with_reducible refine (pay_Catch.calls x134000_1 x134001_1 x134002_1 x134003_1 ((rd_T39 l2 x34_1).f1) t192 t193 t194 t195 t196 _ A46.out).mono ?_); rintro e w61 ⟨rfl, hb⟩; refine ⟨_, rfl, ?_⟩; have n0_ := kb_ BK133 hb; have n1_ := kb_ BK166 hb; have n2_ := kb_ BK180 hb; have n3_ := hs_ HB hb; clear BK133; clear BK166; clear BK180; clear HB; have BK133 := n0_; have BK166 := n1_; have BK180 := n2_; have HB := n3_; clear n0_ n1_ n2_ n3_; (try clear hb); (try clear hb2); (try clear hk); (try clear hi); have hcz62_0 : w61.cell? ⟨gb180, 0, none⟩ = some (.int .i64 0) := (blk_cell BK180.out 0).trans rfl; have hcz62_1 : w61.cell? ⟨gb180, 1, none⟩ = some (.int .i64 0) := (blk_cell BK180.out 1).trans rfl; have hcz62_2 : w61.cell? ⟨gb180, 2, none⟩ = some (.int .i64 0) := (blk_cell BK180.out 2).trans rfl; have hcz62_3 : w61.cell? ⟨gb180, 3, none⟩ = some (.int .i64 0) := (blk_cell BK180.out 3).trans rfl; have hfz62_0 := blk_frozen BK180.out 0; have hfz62_1 := blk_frozen BK180.out 1; have hfz62_2 := blk_frozen BK180.out 2; have hfz62_3 := blk_frozen BK180.out 3))
                          go_meet
                          case rel => exact ⟨_, (x9_1), (t196), (t192), (t193), (t194), (t195), (by first | rfl | (simp; done) | (simp [*]; done)), (by first | rfl | (simp; done) | (simp [*]; done)), H', ⟨by have := HK1.out; first | omega | exact Nat.le_refl _⟩, ⟨kk_ BK133⟩, ⟨kk_ BK166⟩, ⟨by (with_reducible repeat (first | refine blk_drewN ?_ _ | refine blk_drew ?_ | refine blk_alloc ?_ _)); refine blk_put (cs := #[.int .i64 t192, .int .i64 t193, .int .i64 t194, .int .i64 0]) ?_ 3 _ rfl; (with_reducible repeat (first | refine blk_drewN ?_ _ | refine blk_drew ?_ | refine blk_alloc ?_ _)); refine blk_put (cs := #[.int .i64 t192, .int .i64 t193, .int .i64 0, .int .i64 0]) ?_ 2 _ rfl; (with_reducible repeat (first | refine blk_drewN ?_ _ | refine blk_drew ?_ | refine blk_alloc ?_ _)); refine blk_put (cs := #[.int .i64 t192, .int .i64 0, .int .i64 0, .int .i64 0]) ?_ 1 _ rfl; (with_reducible repeat (first | refine blk_drewN ?_ _ | refine blk_drew ?_ | refine blk_alloc ?_ _)); refine blk_put (cs := #[.int .i64 0, .int .i64 0, .int .i64 0, .int .i64 0]) ?_ 0 _ rfl; (with_reducible repeat (first | refine blk_drewN ?_ _ | refine blk_drew ?_ | refine blk_alloc ?_ _)); exact BK180.out⟩, ⟨hh_ HB⟩⟩
                      · rw [if_neg c45] at H
                        have c45b0 : ((Int.tmod (wrap64 ((Int.tmod ((rd_T39 l2 x34_1).f0) 4) + 4)) 4) == 2) = false := beq_eq_false_iff_ne.mpr c45
                        have c45b1 : ((Int.tmod (wrap64 ((Int.tmod ((rd_T39 l2 x34_1).f0) 4) + 4)) 4) != 2) = true := bne_iff_ne.mpr c45
                        replace H := Option.bind_eq_some_iff.mp H
                        obtain ⟨⟨t197, t198, t199, t200, t201⟩, A630, H⟩ := H
                        replace H : (tarrylaw11_PayKeeps.j1 k1 (wrap64 (1 + (Int.tmod (wrap64 ((Int.tmod a0 100) + 100)) 100))) (wrap64 (1 + (Int.tmod (wrap64 ((Int.tmod a1 100) + 100)) 100))) x9_1 t201 l2 (l2.length : Int) x34_1 x134000_1 x134001_1 x134002_1 x134003_1 ((rd_T39 l2 x34_1).f0) ((rd_T39 l2 x34_1).f1) t197 t198 t199 t200) = some r := H
                        have A63 := Aside0.mk A630
                        clear A630
                        have H' := Aside0.mk H
                        clear H
                        have hnb64 := NB133_166.out
                        have hnc64 := NB166_133.out
                        have hnb65 := NB133_180.out
                        have hnc65 := NB180_133.out
                        have hcz66_0 : w24.cell? ⟨gb133, 0, none⟩ = some (.int .i64 x134000_1) := (blk_cell BK133.out 0).trans rfl
                        have hcz66_1 : w24.cell? ⟨gb133, 1, none⟩ = some (.int .i64 x134001_1) := (blk_cell BK133.out 1).trans rfl
                        have hcz66_2 : w24.cell? ⟨gb133, 2, none⟩ = some (.int .i64 x134002_1) := (blk_cell BK133.out 2).trans rfl
                        have hcz66_3 : w24.cell? ⟨gb133, 3, none⟩ = some (.int .i64 x134003_1) := (blk_cell BK133.out 3).trans rfl
                        have hfz66_0 := blk_frozen BK133.out 0
                        have hfz66_1 := blk_frozen BK133.out 1
                        have hfz66_2 := blk_frozen BK133.out 2
                        have hfz66_3 := blk_frozen BK133.out 3
                        go_wp2_with (first | ((with_reducible refine gate_callee (f := 15) rfl ?_); refine goesL_ (some 48) rfl rfl Try.func15 (by kernel_rfl) rfl #[.agg #[.int .i64 x134000_1, .int .i64 x134001_1, .int .i64 x134002_1, .int .i64 x134003_1]] rfl (by (try simp only [List.map_toArray, List.map_cons, List.map_nil]); first | done | rfl | (simp only [List.length_drop, List.length_take]; rfl)) ?_; (with_reducible refine (pay_Close.calls x134000_1 x134001_1 x134002_1 x134003_1 t197 t198 t199 t200 t201 _ A63.out).mono ?_); rintro e w67 ⟨rfl, hb⟩; refine ⟨_, rfl, ?_⟩; have n0_ := kb_ BK133 hb; have n1_ := kb_ BK166 hb; have n2_ := kb_ BK180 hb; have n3_ := hs_ HB hb; clear BK133; clear BK166; clear BK180; clear HB; have BK133 := n0_; have BK166 := n1_; have BK180 := n2_; have HB := n3_; clear n0_ n1_ n2_ n3_; (try clear hb); (try clear hb2); (try clear hk); (try clear hi); have hnb68 := NB180_166.out; have hnc68 := NB166_180.out; have hcz69_0 : w67.cell? ⟨gb180, 0, none⟩ = some (.int .i64 0) := (blk_cell BK180.out 0).trans rfl; have hcz69_1 : w67.cell? ⟨gb180, 1, none⟩ = some (.int .i64 0) := (blk_cell BK180.out 1).trans rfl; have hcz69_2 : w67.cell? ⟨gb180, 2, none⟩ = some (.int .i64 0) := (blk_cell BK180.out 2).trans rfl; have hcz69_3 : w67.cell? ⟨gb180, 3, none⟩ = some (.int .i64 0) := (blk_cell BK180.out 3).trans rfl; have hfz69_0 := blk_frozen BK180.out 0; have hfz69_1 := blk_frozen BK180.out 1; have hfz69_2 := blk_frozen BK180.out 2; have hfz69_3 := blk_frozen BK180.out 3))
                        go_meet
                        case rel => exact ⟨_, (x9_1), (t201), (t197), (t198), (t199), (t200), (by first | rfl | (simp; done) | (simp [*]; done)), (by first | rfl | (simp; done) | (simp [*]; done)), H', ⟨by have := HK1.out; first | omega | exact Nat.le_refl _⟩, ⟨kk_ BK133⟩, ⟨kk_ BK166⟩, ⟨by (with_reducible repeat (first | refine blk_drewN ?_ _ | refine blk_drew ?_ | refine blk_alloc ?_ _)); refine blk_put (cs := #[.int .i64 t197, .int .i64 t198, .int .i64 t199, .int .i64 0]) ?_ 3 _ rfl; (with_reducible repeat (first | refine blk_drewN ?_ _ | refine blk_drew ?_ | refine blk_alloc ?_ _)); refine blk_put (cs := #[.int .i64 t197, .int .i64 t198, .int .i64 0, .int .i64 0]) ?_ 2 _ rfl; (with_reducible repeat (first | refine blk_drewN ?_ _ | refine blk_drew ?_ | refine blk_alloc ?_ _)); refine blk_put (cs := #[.int .i64 t197, .int .i64 0, .int .i64 0, .int .i64 0]) ?_ 1 _ rfl; (with_reducible repeat (first | refine blk_drewN ?_ _ | refine blk_drew ?_ | refine blk_alloc ?_ _)); refine blk_put (cs := #[.int .i64 0, .int .i64 0, .int .i64 0, .int .i64 0]) ?_ 0 _ rfl; (with_reducible repeat (first | refine blk_drewN ?_ _ | refine blk_drew ?_ | refine blk_alloc ?_ _)); exact BK180.out⟩, ⟨hh_ HB⟩⟩
                case rest =>
                  clear HC20
                  try clear c1
                  try clear p1
                  try clear q1
                  try clear hx1
                  try clear c2
                  try clear p2
                  try clear c3
                  try clear c4
                  try clear c5
                  try clear c5b0
                  try clear c5b1
                  try clear c6
                  try clear p6
                  try clear c7
                  try clear c9
                  try clear c9b0
                  try clear c10
                  try clear c10b0
                  try clear c11
                  try clear c11b0
                  try clear c12
                  try clear c12b0
                  try clear c13
                  try clear c14
                  try clear c15
                  try clear c16
                  try clear p16
                  try clear q16
                  try clear hx16
                  try clear c22
                  try clear c25
                  try clear c27
                  try clear c27b0
                  try clear c27b1
                  try clear c29
                  try clear c30
                  try clear c32
                  try clear c36
                  try clear c36b0
                  try clear c36b1
                  try clear c38
                  try clear c39
                  try clear c41
                  try clear c45
                  try clear c45b0
                  try clear c45b1
                  try clear c47
                  try clear c47b0
                  try clear c47b1
                  try clear c48
                  try clear c49
                  try clear c51
                  try clear c56
                  try clear c57
                  try clear c59
                  try clear c64
                  try clear p64
                  try clear c65
                  try clear c68
                  try clear hcz17_0
                  try clear hcz17_1
                  try clear hcz19_0
                  try clear hcz19_1
                  try clear hcz19_2
                  try clear hcz19_3
                  try clear hcz23_0
                  try clear hcz23_1
                  try clear hcz26_0
                  try clear hcz26_1
                  try clear hcz31_0
                  try clear hcz31_1
                  try clear hcz31_2
                  try clear hcz31_3
                  try clear hcz33_0
                  try clear hcz33_1
                  try clear hcz35_0
                  try clear hcz35_1
                  try clear hcz35_2
                  try clear hcz35_3
                  try clear hcz40_0
                  try clear hcz40_1
                  try clear hcz40_2
                  try clear hcz40_3
                  try clear hcz42_0
                  try clear hcz42_1
                  try clear hcz44_0
                  try clear hcz44_1
                  try clear hcz44_2
                  try clear hcz44_3
                  try clear hcz50_0
                  try clear hcz50_1
                  try clear hcz50_2
                  try clear hcz50_3
                  try clear hcz52_0
                  try clear hcz52_1
                  try clear hcz54_0
                  try clear hcz54_1
                  try clear hcz54_2
                  try clear hcz54_3
                  try clear hcz55_0
                  try clear hcz55_1
                  try clear hcz58_0
                  try clear hcz58_1
                  try clear hcz58_2
                  try clear hcz58_3
                  try clear hcz60_0
                  try clear hcz60_1
                  try clear hcz62_0
                  try clear hcz62_1
                  try clear hcz62_2
                  try clear hcz62_3
                  try clear hcz66_0
                  try clear hcz66_1
                  try clear hcz66_2
                  try clear hcz66_3
                  try clear hcz69_0
                  try clear hcz69_1
                  try clear hcz69_2
                  try clear hcz69_3
                  try clear hcz8_0
                  try clear hcz8_1
                  try clear hcz8_2
                  try clear hcz8_3
                  try clear hfz17_0
                  try clear hfz17_1
                  try clear hfz19_0
                  try clear hfz19_1
                  try clear hfz19_2
                  try clear hfz19_3
                  try clear hfz23_0
                  try clear hfz23_1
                  try clear hfz26_0
                  try clear hfz26_1
                  try clear hfz31_0
                  try clear hfz31_1
                  try clear hfz31_2
                  try clear hfz31_3
                  try clear hfz33_0
                  try clear hfz33_1
                  try clear hfz35_0
                  try clear hfz35_1
                  try clear hfz35_2
                  try clear hfz35_3
                  try clear hfz40_0
                  try clear hfz40_1
                  try clear hfz40_2
                  try clear hfz40_3
                  try clear hfz42_0
                  try clear hfz42_1
                  try clear hfz44_0
                  try clear hfz44_1
                  try clear hfz44_2
                  try clear hfz44_3
                  try clear hfz50_0
                  try clear hfz50_1
                  try clear hfz50_2
                  try clear hfz50_3
                  try clear hfz52_0
                  try clear hfz52_1
                  try clear hfz54_0
                  try clear hfz54_1
                  try clear hfz54_2
                  try clear hfz54_3
                  try clear hfz55_0
                  try clear hfz55_1
                  try clear hfz58_0
                  try clear hfz58_1
                  try clear hfz58_2
                  try clear hfz58_3
                  try clear hfz60_0
                  try clear hfz60_1
                  try clear hfz62_0
                  try clear hfz62_1
                  try clear hfz62_2
                  try clear hfz62_3
                  try clear hfz66_0
                  try clear hfz66_1
                  try clear hfz66_2
                  try clear hfz66_3
                  try clear hfz69_0
                  try clear hfz69_1
                  try clear hfz69_2
                  try clear hfz69_3
                  try clear hfz8_0
                  try clear hfz8_1
                  try clear hfz8_2
                  try clear hfz8_3
                  try clear hx165_0
                  try clear hx165_1
                  try clear p165
                  try clear p2
                  try clear p6
                  try clear q165
                  obtain ⟨kq, x9_19, x13_19, x181000_19, x181001_19, x181002_19, x181003_19, rfl, rfl, HA, HJ19, BK133, BK166, BK180, HB⟩ := hcut
                  cases kq with
                  | zero => exact absurd HA.out (by simp [tarrylaw11_PayKeeps.j1])
                  | succ kj19 =>
                    have H := HA.out
                    clear HA
                    simp only [tarrylaw11_PayKeeps.j1] at H
                    by_cases c70 : x13_19 = 0
                    · rw [if_pos c70] at H
                      have c70b0 : (x13_19 == 0) = true := beq_iff_eq.mpr c70
                      have c70b1 : (x13_19 != 0) = false := bne_eq_false_iff_eq.mpr c70
                      clear c70
                      replace H := Option.bind_eq_some_iff.mp H
                      obtain ⟨t227, A710, H⟩ := H
                      replace H : (if t227 = true then (if x181000_19 = (wrap64 ((wrap64 (1 + (Int.tmod (wrap64 ((Int.tmod a0 100) + 100)) 100))) * (wrap64 (1 + (Int.tmod (wrap64 ((Int.tmod a1 100) + 100)) 100))))) then (if x181001_19 = x9_19 then (if x134003_1 = 3 then (if (!(x181000_19 == x134000_1) || (!(x181001_19 == x134001_1) || (!(x181002_19 == x134002_1) || (!(x181003_19 == x134003_1))))) = true then (none) else ((pay_Good.f x181000_19 x181001_19 x181002_19 x181003_19 (-1)).bind fun t228 => (if t228 = true then ((pay_Good.f x134000_1 x134001_1 x134002_1 x134003_1 (-1)).bind fun t229 => (if t229 = true then (tarrylaw11_PayKeeps.l0 kj19 (wrap64 (1 + (Int.tmod (wrap64 ((Int.tmod a0 100) + 100)) 100))) (wrap64 (1 + (Int.tmod (wrap64 ((Int.tmod a1 100) + 100)) 100))) x9_19 l2 (l2.length : Int) (wrap64 (x34_1 + 1)) x181000_19 x181001_19 x181002_19 x181003_19) else (if (Int.tmod (wrap64 ((Int.tmod ((rd_T39 l2 x34_1).f0) 4) + 4)) 4) = 1 then (tarrylaw11_PayKeeps.l0 kj19 (wrap64 (1 + (Int.tmod (wrap64 ((Int.tmod a0 100) + 100)) 100))) (wrap64 (1 + (Int.tmod (wrap64 ((Int.tmod a1 100) + 100)) 100))) x9_19 l2 (l2.length : Int) (wrap64 (x34_1 + 1)) x181000_19 x181001_19 x181002_19 x181003_19) else (none)))) else (tarrylaw11_PayKeeps.l0 kj19 (wrap64 (1 + (Int.tmod (wrap64 ((Int.tmod a0 100) + 100)) 100))) (wrap64 (1 + (Int.tmod (wrap64 ((Int.tmod a1 100) + 100)) 100))) x9_19 l2 (l2.length : Int) (wrap64 (x34_1 + 1)) x181000_19 x181001_19 x181002_19 x181003_19)))) else ((pay_Good.f x181000_19 x181001_19 x181002_19 x181003_19 (-1)).bind fun t230 => (if t230 = true then ((pay_Good.f x134000_1 x134001_1 x134002_1 x134003_1 (-1)).bind fun t231 => (if t231 = true then (tarrylaw11_PayKeeps.l0 kj19 (wrap64 (1 + (Int.tmod (wrap64 ((Int.tmod a0 100) + 100)) 100))) (wrap64 (1 + (Int.tmod (wrap64 ((Int.tmod a1 100) + 100)) 100))) x9_19 l2 (l2.length : Int) (wrap64 (x34_1 + 1)) x181000_19 x181001_19 x181002_19 x181003_19) else (if (Int.tmod (wrap64 ((Int.tmod ((rd_T39 l2 x34_1).f0) 4) + 4)) 4) = 1 then (tarrylaw11_PayKeeps.l0 kj19 (wrap64 (1 + (Int.tmod (wrap64 ((Int.tmod a0 100) + 100)) 100))) (wrap64 (1 + (Int.tmod (wrap64 ((Int.tmod a1 100) + 100)) 100))) x9_19 l2 (l2.length : Int) (wrap64 (x34_1 + 1)) x181000_19 x181001_19 x181002_19 x181003_19) else (none)))) else (tarrylaw11_PayKeeps.l0 kj19 (wrap64 (1 + (Int.tmod (wrap64 ((Int.tmod a0 100) + 100)) 100))) (wrap64 (1 + (Int.tmod (wrap64 ((Int.tmod a1 100) + 100)) 100))) x9_19 l2 (l2.length : Int) (wrap64 (x34_1 + 1)) x181000_19 x181001_19 x181002_19 x181003_19)))) else (none)) else (none)) else (none)) = some r := H
                      have A71 := Aside0.mk A710
                      clear A710
                      by_cases c72 : t227 = true
                      · subst c72
                        have H1 : (if x181000_19 = (wrap64 ((wrap64 (1 + (Int.tmod (wrap64 ((Int.tmod a0 100) + 100)) 100))) * (wrap64 (1 + (Int.tmod (wrap64 ((Int.tmod a1 100) + 100)) 100))))) then (if x181001_19 = x9_19 then (if x134003_1 = 3 then (if (!(x181000_19 == x134000_1) || (!(x181001_19 == x134001_1) || (!(x181002_19 == x134002_1) || (!(x181003_19 == x134003_1))))) = true then (none) else ((pay_Good.f x181000_19 x181001_19 x181002_19 x181003_19 (-1)).bind fun t228 => (if t228 = true then ((pay_Good.f x134000_1 x134001_1 x134002_1 x134003_1 (-1)).bind fun t229 => (if t229 = true then (tarrylaw11_PayKeeps.l0 kj19 (wrap64 (1 + (Int.tmod (wrap64 ((Int.tmod a0 100) + 100)) 100))) (wrap64 (1 + (Int.tmod (wrap64 ((Int.tmod a1 100) + 100)) 100))) x9_19 l2 (l2.length : Int) (wrap64 (x34_1 + 1)) x181000_19 x181001_19 x181002_19 x181003_19) else (if (Int.tmod (wrap64 ((Int.tmod ((rd_T39 l2 x34_1).f0) 4) + 4)) 4) = 1 then (tarrylaw11_PayKeeps.l0 kj19 (wrap64 (1 + (Int.tmod (wrap64 ((Int.tmod a0 100) + 100)) 100))) (wrap64 (1 + (Int.tmod (wrap64 ((Int.tmod a1 100) + 100)) 100))) x9_19 l2 (l2.length : Int) (wrap64 (x34_1 + 1)) x181000_19 x181001_19 x181002_19 x181003_19) else (none)))) else (tarrylaw11_PayKeeps.l0 kj19 (wrap64 (1 + (Int.tmod (wrap64 ((Int.tmod a0 100) + 100)) 100))) (wrap64 (1 + (Int.tmod (wrap64 ((Int.tmod a1 100) + 100)) 100))) x9_19 l2 (l2.length : Int) (wrap64 (x34_1 + 1)) x181000_19 x181001_19 x181002_19 x181003_19)))) else ((pay_Good.f x181000_19 x181001_19 x181002_19 x181003_19 (-1)).bind fun t230 => (if t230 = true then ((pay_Good.f x134000_1 x134001_1 x134002_1 x134003_1 (-1)).bind fun t231 => (if t231 = true then (tarrylaw11_PayKeeps.l0 kj19 (wrap64 (1 + (Int.tmod (wrap64 ((Int.tmod a0 100) + 100)) 100))) (wrap64 (1 + (Int.tmod (wrap64 ((Int.tmod a1 100) + 100)) 100))) x9_19 l2 (l2.length : Int) (wrap64 (x34_1 + 1)) x181000_19 x181001_19 x181002_19 x181003_19) else (if (Int.tmod (wrap64 ((Int.tmod ((rd_T39 l2 x34_1).f0) 4) + 4)) 4) = 1 then (tarrylaw11_PayKeeps.l0 kj19 (wrap64 (1 + (Int.tmod (wrap64 ((Int.tmod a0 100) + 100)) 100))) (wrap64 (1 + (Int.tmod (wrap64 ((Int.tmod a1 100) + 100)) 100))) x9_19 l2 (l2.length : Int) (wrap64 (x34_1 + 1)) x181000_19 x181001_19 x181002_19 x181003_19) else (none)))) else (tarrylaw11_PayKeeps.l0 kj19 (wrap64 (1 + (Int.tmod (wrap64 ((Int.tmod a0 100) + 100)) 100))) (wrap64 (1 + (Int.tmod (wrap64 ((Int.tmod a1 100) + 100)) 100))) x9_19 l2 (l2.length : Int) (wrap64 (x34_1 + 1)) x181000_19 x181001_19 x181002_19 x181003_19)))) else (none)) else (none)) = some r := by rw [if_pos rfl] at H; exact H
                        clear H
                        have H := H1
                        clear H1
                        by_cases c73 : x181000_19 = (wrap64 ((wrap64 (1 + (Int.tmod (wrap64 ((Int.tmod a0 100) + 100)) 100))) * (wrap64 (1 + (Int.tmod (wrap64 ((Int.tmod a1 100) + 100)) 100)))))
                        · rw [if_pos c73] at H
                          have c73b0 : (x181000_19 == (wrap64 ((wrap64 (1 + (Int.tmod (wrap64 ((Int.tmod a0 100) + 100)) 100))) * (wrap64 (1 + (Int.tmod (wrap64 ((Int.tmod a1 100) + 100)) 100)))))) = true := beq_iff_eq.mpr c73
                          have c73b1 : (x181000_19 != (wrap64 ((wrap64 (1 + (Int.tmod (wrap64 ((Int.tmod a0 100) + 100)) 100))) * (wrap64 (1 + (Int.tmod (wrap64 ((Int.tmod a1 100) + 100)) 100)))))) = false := bne_eq_false_iff_eq.mpr c73
                          clear c73
                          by_cases c74 : x181001_19 = x9_19
                          · rw [if_pos c74] at H
                            have c74b0 : (x181001_19 == x9_19) = true := beq_iff_eq.mpr c74
                            have c74b1 : (x181001_19 != x9_19) = false := bne_eq_false_iff_eq.mpr c74
                            clear c74
                            by_cases c75 : x134003_1 = 3
                            · rw [if_pos c75] at H
                              have c75b0 : (x134003_1 == 3) = true := beq_iff_eq.mpr c75
                              have c75b1 : (x134003_1 != 3) = false := bne_eq_false_iff_eq.mpr c75
                              clear c75
                              by_cases c76 : (!(x181000_19 == x134000_1) || (!(x181001_19 == x134001_1) || (!(x181002_19 == x134002_1) || (!(x181003_19 == x134003_1))))) = true
                              · rw [if_pos c76] at H
                                exact absurd H (by simp)
                              · rw [if_neg c76] at H
                                have c76b0 : (!(x181000_19 == x134000_1) || (!(x181001_19 == x134001_1) || (!(x181002_19 == x134002_1) || (!(x181003_19 == x134003_1))))) = false := by simpa using c76
                                clear c76
                                replace H := Option.bind_eq_some_iff.mp H
                                obtain ⟨t228, A770, H⟩ := H
                                replace H : (if t228 = true then ((pay_Good.f x134000_1 x134001_1 x134002_1 x134003_1 (-1)).bind fun t229 => (if t229 = true then (tarrylaw11_PayKeeps.l0 kj19 (wrap64 (1 + (Int.tmod (wrap64 ((Int.tmod a0 100) + 100)) 100))) (wrap64 (1 + (Int.tmod (wrap64 ((Int.tmod a1 100) + 100)) 100))) x9_19 l2 (l2.length : Int) (wrap64 (x34_1 + 1)) x181000_19 x181001_19 x181002_19 x181003_19) else (if (Int.tmod (wrap64 ((Int.tmod ((rd_T39 l2 x34_1).f0) 4) + 4)) 4) = 1 then (tarrylaw11_PayKeeps.l0 kj19 (wrap64 (1 + (Int.tmod (wrap64 ((Int.tmod a0 100) + 100)) 100))) (wrap64 (1 + (Int.tmod (wrap64 ((Int.tmod a1 100) + 100)) 100))) x9_19 l2 (l2.length : Int) (wrap64 (x34_1 + 1)) x181000_19 x181001_19 x181002_19 x181003_19) else (none)))) else (tarrylaw11_PayKeeps.l0 kj19 (wrap64 (1 + (Int.tmod (wrap64 ((Int.tmod a0 100) + 100)) 100))) (wrap64 (1 + (Int.tmod (wrap64 ((Int.tmod a1 100) + 100)) 100))) x9_19 l2 (l2.length : Int) (wrap64 (x34_1 + 1)) x181000_19 x181001_19 x181002_19 x181003_19)) = some r := H
                                have A77 := Aside0.mk A770
                                clear A770
                                by_cases c78 : t228 = true
                                · subst c78
                                  have H1 : ((pay_Good.f x134000_1 x134001_1 x134002_1 x134003_1 (-1)).bind fun t229 => (if t229 = true then (tarrylaw11_PayKeeps.l0 kj19 (wrap64 (1 + (Int.tmod (wrap64 ((Int.tmod a0 100) + 100)) 100))) (wrap64 (1 + (Int.tmod (wrap64 ((Int.tmod a1 100) + 100)) 100))) x9_19 l2 (l2.length : Int) (wrap64 (x34_1 + 1)) x181000_19 x181001_19 x181002_19 x181003_19) else (if (Int.tmod (wrap64 ((Int.tmod ((rd_T39 l2 x34_1).f0) 4) + 4)) 4) = 1 then (tarrylaw11_PayKeeps.l0 kj19 (wrap64 (1 + (Int.tmod (wrap64 ((Int.tmod a0 100) + 100)) 100))) (wrap64 (1 + (Int.tmod (wrap64 ((Int.tmod a1 100) + 100)) 100))) x9_19 l2 (l2.length : Int) (wrap64 (x34_1 + 1)) x181000_19 x181001_19 x181002_19 x181003_19) else (none)))) = some r := by rw [if_pos rfl] at H; exact H
                                  clear H
                                  have H := H1
                                  clear H1
                                  replace H := Option.bind_eq_some_iff.mp H
                                  obtain ⟨t229, A790, H⟩ := H
                                  replace H : (if t229 = true then (tarrylaw11_PayKeeps.l0 kj19 (wrap64 (1 + (Int.tmod (wrap64 ((Int.tmod a0 100) + 100)) 100))) (wrap64 (1 + (Int.tmod (wrap64 ((Int.tmod a1 100) + 100)) 100))) x9_19 l2 (l2.length : Int) (wrap64 (x34_1 + 1)) x181000_19 x181001_19 x181002_19 x181003_19) else (if (Int.tmod (wrap64 ((Int.tmod ((rd_T39 l2 x34_1).f0) 4) + 4)) 4) = 1 then (tarrylaw11_PayKeeps.l0 kj19 (wrap64 (1 + (Int.tmod (wrap64 ((Int.tmod a0 100) + 100)) 100))) (wrap64 (1 + (Int.tmod (wrap64 ((Int.tmod a1 100) + 100)) 100))) x9_19 l2 (l2.length : Int) (wrap64 (x34_1 + 1)) x181000_19 x181001_19 x181002_19 x181003_19) else (none))) = some r := H
                                  have A79 := Aside0.mk A790
                                  clear A790
                                  by_cases c80 : t229 = true
                                  · subst c80
                                    have H1 : (tarrylaw11_PayKeeps.l0 kj19 (wrap64 (1 + (Int.tmod (wrap64 ((Int.tmod a0 100) + 100)) 100))) (wrap64 (1 + (Int.tmod (wrap64 ((Int.tmod a1 100) + 100)) 100))) x9_19 l2 (l2.length : Int) (wrap64 (x34_1 + 1)) x181000_19 x181001_19 x181002_19 x181003_19) = some r := by rw [if_pos rfl] at H; exact H
                                    clear H
                                    have H := H1
                                    clear H1
                                    have H' := Aside0.mk H
                                    clear H
                                    have hnb81 := NB180_133.out
                                    have hnc81 := NB133_180.out
                                    have hnb82 := NB180_166.out
                                    have hnc82 := NB166_180.out
                                    have hcz83_0 : wc.cell? ⟨gb180, 0, none⟩ = some (.int .i64 x181000_19) := (blk_cell BK180.out 0).trans rfl
                                    have hcz83_1 : wc.cell? ⟨gb180, 1, none⟩ = some (.int .i64 x181001_19) := (blk_cell BK180.out 1).trans rfl
                                    have hcz83_2 : wc.cell? ⟨gb180, 2, none⟩ = some (.int .i64 x181002_19) := (blk_cell BK180.out 2).trans rfl
                                    have hcz83_3 : wc.cell? ⟨gb180, 3, none⟩ = some (.int .i64 x181003_19) := (blk_cell BK180.out 3).trans rfl
                                    have hfz83_0 := blk_frozen BK180.out 0
                                    have hfz83_1 := blk_frozen BK180.out 1
                                    have hfz83_2 := blk_frozen BK180.out 2
                                    have hfz83_3 := blk_frozen BK180.out 3
                                    go_wp2_with (first | ((with_reducible refine gate_callee (f := 8) rfl ?_); refine goesL_ (some 88) rfl rfl Try.func8 (by kernel_rfl) rfl #[.agg #[.int .i64 x181000_19, .int .i64 x181001_19, .int .i64 x181002_19, .int .i64 x181003_19]] rfl (by (try simp only [List.map_toArray, List.map_cons, List.map_nil]); first | done | rfl | (simp only [List.length_drop, List.length_take]; rfl)) ?_; (with_reducible refine (pay_Right.calls x181000_19 x181001_19 x181002_19 x181003_19 true _ A71.out).mono ?_); rintro e w84 ⟨rfl, hb⟩; refine ⟨_, rfl, ?_⟩; have n0_ := kb_ BK133 hb; have n1_ := kb_ BK166 hb; have n2_ := kb_ BK180 hb; have n3_ := hs_ HB hb; clear BK133; clear BK166; clear BK180; clear HB; have BK133 := n0_; have BK166 := n1_; have BK180 := n2_; have HB := n3_; clear n0_ n1_ n2_ n3_; (try clear hb); (try clear hb2); (try clear hk); (try clear hi); have hcz85_0 : w84.cell? ⟨gb180, 0, none⟩ = some (.int .i64 x181000_19) := (blk_cell BK180.out 0).trans rfl; have hcz85_1 : w84.cell? ⟨gb180, 1, none⟩ = some (.int .i64 x181001_19) := (blk_cell BK180.out 1).trans rfl; have hcz85_2 : w84.cell? ⟨gb180, 2, none⟩ = some (.int .i64 x181002_19) := (blk_cell BK180.out 2).trans rfl; have hcz85_3 : w84.cell? ⟨gb180, 3, none⟩ = some (.int .i64 x181003_19) := (blk_cell BK180.out 3).trans rfl; have hfz85_0 := blk_frozen BK180.out 0; have hfz85_1 := blk_frozen BK180.out 1; have hfz85_2 := blk_frozen BK180.out 2; have hfz85_3 := blk_frozen BK180.out 3; have hnb86 := NB133_166.out; have hnc86 := NB166_133.out; have hcz87_0 : w84.cell? ⟨gb133, 0, none⟩ = some (.int .i64 x134000_1) := (blk_cell BK133.out 0).trans rfl; have hcz87_1 : w84.cell? ⟨gb133, 1, none⟩ = some (.int .i64 x134001_1) := (blk_cell BK133.out 1).trans rfl; have hcz87_2 : w84.cell? ⟨gb133, 2, none⟩ = some (.int .i64 x134002_1) := (blk_cell BK133.out 2).trans rfl; have hcz87_3 : w84.cell? ⟨gb133, 3, none⟩ = some (.int .i64 x134003_1) := (blk_cell BK133.out 3).trans rfl; have hfz87_0 := blk_frozen BK133.out 0; have hfz87_1 := blk_frozen BK133.out 1; have hfz87_2 := blk_frozen BK133.out 2; have hfz87_3 := blk_frozen BK133.out 3) | (go_at_call 10; (with_reducible refine (pay_Good.calls x181000_19 x181001_19 x181002_19 x181003_19 (-1) true _ A77.out).mono ?_); rintro e w88 ⟨rfl, hb⟩; have n0_ := kb_ BK133 hb; have n1_ := kb_ BK166 hb; have n2_ := kb_ BK180 hb; have n3_ := hs_ HB hb; clear BK133; clear BK166; clear BK180; clear HB; have BK133 := n0_; have BK166 := n1_; have BK180 := n2_; have HB := n3_; clear n0_ n1_ n2_ n3_; (try clear hb); (try clear hb2); (try clear hk); (try clear hi); have hcz89_0 : w88.cell? ⟨gb133, 0, none⟩ = some (.int .i64 x134000_1) := (blk_cell BK133.out 0).trans rfl; have hcz89_1 : w88.cell? ⟨gb133, 1, none⟩ = some (.int .i64 x134001_1) := (blk_cell BK133.out 1).trans rfl; have hcz89_2 : w88.cell? ⟨gb133, 2, none⟩ = some (.int .i64 x134002_1) := (blk_cell BK133.out 2).trans rfl; have hcz89_3 : w88.cell? ⟨gb133, 3, none⟩ = some (.int .i64 x134003_1) := (blk_cell BK133.out 3).trans rfl; have hfz89_0 := blk_frozen BK133.out 0; have hfz89_1 := blk_frozen BK133.out 1; have hfz89_2 := blk_frozen BK133.out 2; have hfz89_3 := blk_frozen BK133.out 3) | (go_at_call 10; (with_reducible refine (pay_Good.calls x134000_1 x134001_1 x134002_1 x134003_1 (-1) true _ A79.out).mono ?_); rintro e w90 ⟨rfl, hb⟩; have n0_ := kb_ BK133 hb; have n1_ := kb_ BK166 hb; have n2_ := kb_ BK180 hb; have n3_ := hs_ HB hb; clear BK133; clear BK166; clear BK180; clear HB; have BK133 := n0_; have BK166 := n1_; have BK180 := n2_; have HB := n3_; clear n0_ n1_ n2_ n3_; (try clear hb); (try clear hb2); (try clear hk); (try clear hi); have hcz91_0 : w90.cell? ⟨gb180, 0, none⟩ = some (.int .i64 x181000_19) := (blk_cell BK180.out 0).trans rfl; have hcz91_1 : w90.cell? ⟨gb180, 1, none⟩ = some (.int .i64 x181001_19) := (blk_cell BK180.out 1).trans rfl; have hcz91_2 : w90.cell? ⟨gb180, 2, none⟩ = some (.int .i64 x181002_19) := (blk_cell BK180.out 2).trans rfl; have hcz91_3 : w90.cell? ⟨gb180, 3, none⟩ = some (.int .i64 x181003_19) := (blk_cell BK180.out 3).trans rfl; have hfz91_0 := blk_frozen BK180.out 0; have hfz91_1 := blk_frozen BK180.out 1; have hfz91_2 := blk_frozen BK180.out 2; have hfz91_3 := blk_frozen BK180.out 3; have hcz92_0 : w90.cell? ⟨gb133, 0, none⟩ = some (.int .i64 x134000_1) := (blk_cell BK133.out 0).trans rfl; have hcz92_1 : w90.cell? ⟨gb133, 1, none⟩ = some (.int .i64 x134001_1) := (blk_cell BK133.out 1).trans rfl; have hcz92_2 : w90.cell? ⟨gb133, 2, none⟩ = some (.int .i64 x134002_1) := (blk_cell BK133.out 2).trans rfl; have hcz92_3 : w90.cell? ⟨gb133, 3, none⟩ = some (.int .i64 x134003_1) := (blk_cell BK133.out 3).trans rfl; have hfz92_0 := blk_frozen BK133.out 0; have hfz92_1 := blk_frozen BK133.out 1; have hfz92_2 := blk_frozen BK133.out 2; have hfz92_3 := blk_frozen BK133.out 3))
                                    go_roundg kj19
                                    case measure => have := HK1.out; have := HJ19.out; omega
                                    case rel => exact ⟨(x9_19), (wrap64 (x34_1 + 1)), (x181000_19), (x181001_19), (x181002_19), (x181003_19), (by first | rfl | (simp; done) | (simp [*]; done)), (by first | rfl | (simp; done) | (simp [*]; done)), H', ⟨by have := HK1.out; have := HJ19.out; omega⟩, ⟨by (with_reducible repeat (first | refine blk_drewN ?_ _ | refine blk_drew ?_ | refine blk_alloc ?_ _)); refine blk_put (cs := #[.int .i64 x181000_19, .int .i64 x181001_19, .int .i64 x181002_19, .int .i64 x134003_1]) ?_ 3 _ rfl; (with_reducible repeat (first | refine blk_drewN ?_ _ | refine blk_drew ?_ | refine blk_alloc ?_ _)); refine blk_put (cs := #[.int .i64 x181000_19, .int .i64 x181001_19, .int .i64 x134002_1, .int .i64 x134003_1]) ?_ 2 _ rfl; (with_reducible repeat (first | refine blk_drewN ?_ _ | refine blk_drew ?_ | refine blk_alloc ?_ _)); refine blk_put (cs := #[.int .i64 x181000_19, .int .i64 x134001_1, .int .i64 x134002_1, .int .i64 x134003_1]) ?_ 1 _ rfl; (with_reducible repeat (first | refine blk_drewN ?_ _ | refine blk_drew ?_ | refine blk_alloc ?_ _)); refine blk_put (cs := #[.int .i64 x134000_1, .int .i64 x134001_1, .int .i64 x134002_1, .int .i64 x134003_1]) ?_ 0 _ rfl; (with_reducible repeat (first | refine blk_drewN ?_ _ | refine blk_drew ?_ | refine blk_alloc ?_ _)); exact BK133.out⟩, ⟨hh_ HB⟩⟩
                                  · replace c80 := Bool.eq_false_iff.mpr c80
                                    subst c80
                                    have H1 : (if (Int.tmod (wrap64 ((Int.tmod ((rd_T39 l2 x34_1).f0) 4) + 4)) 4) = 1 then (tarrylaw11_PayKeeps.l0 kj19 (wrap64 (1 + (Int.tmod (wrap64 ((Int.tmod a0 100) + 100)) 100))) (wrap64 (1 + (Int.tmod (wrap64 ((Int.tmod a1 100) + 100)) 100))) x9_19 l2 (l2.length : Int) (wrap64 (x34_1 + 1)) x181000_19 x181001_19 x181002_19 x181003_19) else (none)) = some r := by rw [if_neg (show ¬ (false = true) by decide)] at H; exact H
                                    clear H
                                    have H := H1
                                    clear H1
                                    by_cases c93 : (Int.tmod (wrap64 ((Int.tmod ((rd_T39 l2 x34_1).f0) 4) + 4)) 4) = 1
                                    · rw [if_pos c93] at H
                                      have c93b0 : ((Int.tmod (wrap64 ((Int.tmod ((rd_T39 l2 x34_1).f0) 4) + 4)) 4) == 1) = true := beq_iff_eq.mpr c93
                                      have c93b1 : ((Int.tmod (wrap64 ((Int.tmod ((rd_T39 l2 x34_1).f0) 4) + 4)) 4) != 1) = false := bne_eq_false_iff_eq.mpr c93
                                      clear c93
                                      have H' := Aside0.mk H
                                      clear H
                                      have hnb94 := NB180_133.out
                                      have hnc94 := NB133_180.out
                                      have hnb95 := NB180_166.out
                                      have hnc95 := NB166_180.out
                                      have hcz96_0 : wc.cell? ⟨gb180, 0, none⟩ = some (.int .i64 x181000_19) := (blk_cell BK180.out 0).trans rfl
                                      have hcz96_1 : wc.cell? ⟨gb180, 1, none⟩ = some (.int .i64 x181001_19) := (blk_cell BK180.out 1).trans rfl
                                      have hcz96_2 : wc.cell? ⟨gb180, 2, none⟩ = some (.int .i64 x181002_19) := (blk_cell BK180.out 2).trans rfl
                                      have hcz96_3 : wc.cell? ⟨gb180, 3, none⟩ = some (.int .i64 x181003_19) := (blk_cell BK180.out 3).trans rfl
                                      have hfz96_0 := blk_frozen BK180.out 0
                                      have hfz96_1 := blk_frozen BK180.out 1
                                      have hfz96_2 := blk_frozen BK180.out 2
                                      have hfz96_3 := blk_frozen BK180.out 3
                                      go_wp2_with (first | ((with_reducible refine gate_callee (f := 8) rfl ?_); refine goesL_ (some 88) rfl rfl Try.func8 (by kernel_rfl) rfl #[.agg #[.int .i64 x181000_19, .int .i64 x181001_19, .int .i64 x181002_19, .int .i64 x181003_19]] rfl (by (try simp only [List.map_toArray, List.map_cons, List.map_nil]); first | done | rfl | (simp only [List.length_drop, List.length_take]; rfl)) ?_; (with_reducible refine (pay_Right.calls x181000_19 x181001_19 x181002_19 x181003_19 true _ A71.out).mono ?_); rintro e w97 ⟨rfl, hb⟩; refine ⟨_, rfl, ?_⟩; have n0_ := kb_ BK133 hb; have n1_ := kb_ BK166 hb; have n2_ := kb_ BK180 hb; have n3_ := hs_ HB hb; clear BK133; clear BK166; clear BK180; clear HB; have BK133 := n0_; have BK166 := n1_; have BK180 := n2_; have HB := n3_; clear n0_ n1_ n2_ n3_; (try clear hb); (try clear hb2); (try clear hk); (try clear hi); have hcz98_0 : w97.cell? ⟨gb180, 0, none⟩ = some (.int .i64 x181000_19) := (blk_cell BK180.out 0).trans rfl; have hcz98_1 : w97.cell? ⟨gb180, 1, none⟩ = some (.int .i64 x181001_19) := (blk_cell BK180.out 1).trans rfl; have hcz98_2 : w97.cell? ⟨gb180, 2, none⟩ = some (.int .i64 x181002_19) := (blk_cell BK180.out 2).trans rfl; have hcz98_3 : w97.cell? ⟨gb180, 3, none⟩ = some (.int .i64 x181003_19) := (blk_cell BK180.out 3).trans rfl; have hfz98_0 := blk_frozen BK180.out 0; have hfz98_1 := blk_frozen BK180.out 1; have hfz98_2 := blk_frozen BK180.out 2; have hfz98_3 := blk_frozen BK180.out 3; have hnb99 := NB133_166.out; have hnc99 := NB166_133.out; have hcz100_0 : w97.cell? ⟨gb133, 0, none⟩ = some (.int .i64 x134000_1) := (blk_cell BK133.out 0).trans rfl; have hcz100_1 : w97.cell? ⟨gb133, 1, none⟩ = some (.int .i64 x134001_1) := (blk_cell BK133.out 1).trans rfl; have hcz100_2 : w97.cell? ⟨gb133, 2, none⟩ = some (.int .i64 x134002_1) := (blk_cell BK133.out 2).trans rfl; have hcz100_3 : w97.cell? ⟨gb133, 3, none⟩ = some (.int .i64 x134003_1) := (blk_cell BK133.out 3).trans rfl; have hfz100_0 := blk_frozen BK133.out 0; have hfz100_1 := blk_frozen BK133.out 1; have hfz100_2 := blk_frozen BK133.out 2; have hfz100_3 := blk_frozen BK133.out 3) | (go_at_call 10; (with_reducible refine (pay_Good.calls x181000_19 x181001_19 x181002_19 x181003_19 (-1) true _ A77.out).mono ?_); rintro e w101 ⟨rfl, hb⟩; have n0_ := kb_ BK133 hb; have n1_ := kb_ BK166 hb; have n2_ := kb_ BK180 hb; have n3_ := hs_ HB hb; clear BK133; clear BK166; clear BK180; clear HB; have BK133 := n0_; have BK166 := n1_; have BK180 := n2_; have HB := n3_; clear n0_ n1_ n2_ n3_; (try clear hb); (try clear hb2); (try clear hk); (try clear hi); have hcz102_0 : w101.cell? ⟨gb133, 0, none⟩ = some (.int .i64 x134000_1) := (blk_cell BK133.out 0).trans rfl; have hcz102_1 : w101.cell? ⟨gb133, 1, none⟩ = some (.int .i64 x134001_1) := (blk_cell BK133.out 1).trans rfl; have hcz102_2 : w101.cell? ⟨gb133, 2, none⟩ = some (.int .i64 x134002_1) := (blk_cell BK133.out 2).trans rfl; have hcz102_3 : w101.cell? ⟨gb133, 3, none⟩ = some (.int .i64 x134003_1) := (blk_cell BK133.out 3).trans rfl; have hfz102_0 := blk_frozen BK133.out 0; have hfz102_1 := blk_frozen BK133.out 1; have hfz102_2 := blk_frozen BK133.out 2; have hfz102_3 := blk_frozen BK133.out 3) | (go_at_call 10; (with_reducible refine (pay_Good.calls x134000_1 x134001_1 x134002_1 x134003_1 (-1) false _ A79.out).mono ?_); rintro e w103 ⟨rfl, hb⟩; have n0_ := kb_ BK133 hb; have n1_ := kb_ BK166 hb; have n2_ := kb_ BK180 hb; have n3_ := hs_ HB hb; clear BK133; clear BK166; clear BK180; clear HB; have BK133 := n0_; have BK166 := n1_; have BK180 := n2_; have HB := n3_; clear n0_ n1_ n2_ n3_; (try clear hb); (try clear hb2); (try clear hk); (try clear hi); have hcz104_0 : w103.cell? ⟨gb166, 0, none⟩ = some (.int .i64 ((rd_T39 l2 x34_1).f0)) := (blk_cell BK166.out 0).trans rfl; have hcz104_1 : w103.cell? ⟨gb166, 1, none⟩ = some (.int .i64 ((rd_T39 l2 x34_1).f1)) := (blk_cell BK166.out 1).trans rfl; have hfz104_0 := blk_frozen BK166.out 0; have hfz104_1 := blk_frozen BK166.out 1; have hcz105_0 : w103.cell? ⟨gb180, 0, none⟩ = some (.int .i64 x181000_19) := (blk_cell BK180.out 0).trans rfl; have hcz105_1 : w103.cell? ⟨gb180, 1, none⟩ = some (.int .i64 x181001_19) := (blk_cell BK180.out 1).trans rfl; have hcz105_2 : w103.cell? ⟨gb180, 2, none⟩ = some (.int .i64 x181002_19) := (blk_cell BK180.out 2).trans rfl; have hcz105_3 : w103.cell? ⟨gb180, 3, none⟩ = some (.int .i64 x181003_19) := (blk_cell BK180.out 3).trans rfl; have hfz105_0 := blk_frozen BK180.out 0; have hfz105_1 := blk_frozen BK180.out 1; have hfz105_2 := blk_frozen BK180.out 2; have hfz105_3 := blk_frozen BK180.out 3; have hcz106_0 : w103.cell? ⟨gb133, 0, none⟩ = some (.int .i64 x134000_1) := (blk_cell BK133.out 0).trans rfl; have hcz106_1 : w103.cell? ⟨gb133, 1, none⟩ = some (.int .i64 x134001_1) := (blk_cell BK133.out 1).trans rfl; have hcz106_2 : w103.cell? ⟨gb133, 2, none⟩ = some (.int .i64 x134002_1) := (blk_cell BK133.out 2).trans rfl; have hcz106_3 : w103.cell? ⟨gb133, 3, none⟩ = some (.int .i64 x134003_1) := (blk_cell BK133.out 3).trans rfl; have hfz106_0 := blk_frozen BK133.out 0; have hfz106_1 := blk_frozen BK133.out 1; have hfz106_2 := blk_frozen BK133.out 2; have hfz106_3 := blk_frozen BK133.out 3))
                                      go_roundg kj19
                                      case measure => have := HK1.out; have := HJ19.out; omega
                                      case rel => exact ⟨(x9_19), (wrap64 (x34_1 + 1)), (x181000_19), (x181001_19), (x181002_19), (x181003_19), (by first | rfl | (simp; done) | (simp [*]; done)), (by first | rfl | (simp; done) | (simp [*]; done)), H', ⟨by have := HK1.out; have := HJ19.out; omega⟩, ⟨by (with_reducible repeat (first | refine blk_drewN ?_ _ | refine blk_drew ?_ | refine blk_alloc ?_ _)); refine blk_put (cs := #[.int .i64 x181000_19, .int .i64 x181001_19, .int .i64 x181002_19, .int .i64 x134003_1]) ?_ 3 _ rfl; (with_reducible repeat (first | refine blk_drewN ?_ _ | refine blk_drew ?_ | refine blk_alloc ?_ _)); refine blk_put (cs := #[.int .i64 x181000_19, .int .i64 x181001_19, .int .i64 x134002_1, .int .i64 x134003_1]) ?_ 2 _ rfl; (with_reducible repeat (first | refine blk_drewN ?_ _ | refine blk_drew ?_ | refine blk_alloc ?_ _)); refine blk_put (cs := #[.int .i64 x181000_19, .int .i64 x134001_1, .int .i64 x134002_1, .int .i64 x134003_1]) ?_ 1 _ rfl; (with_reducible repeat (first | refine blk_drewN ?_ _ | refine blk_drew ?_ | refine blk_alloc ?_ _)); refine blk_put (cs := #[.int .i64 x134000_1, .int .i64 x134001_1, .int .i64 x134002_1, .int .i64 x134003_1]) ?_ 0 _ rfl; (with_reducible repeat (first | refine blk_drewN ?_ _ | refine blk_drew ?_ | refine blk_alloc ?_ _)); exact BK133.out⟩, ⟨hh_ HB⟩⟩
                                    · rw [if_neg c93] at H
                                      exact absurd H (by simp)
                                · replace c78 := Bool.eq_false_iff.mpr c78
                                  subst c78
                                  have H1 : (tarrylaw11_PayKeeps.l0 kj19 (wrap64 (1 + (Int.tmod (wrap64 ((Int.tmod a0 100) + 100)) 100))) (wrap64 (1 + (Int.tmod (wrap64 ((Int.tmod a1 100) + 100)) 100))) x9_19 l2 (l2.length : Int) (wrap64 (x34_1 + 1)) x181000_19 x181001_19 x181002_19 x181003_19) = some r := by rw [if_neg (show ¬ (false = true) by decide)] at H; exact H
                                  clear H
                                  have H := H1
                                  clear H1
                                  have H' := Aside0.mk H
                                  clear H
                                  have hnb107 := NB180_133.out
                                  have hnc107 := NB133_180.out
                                  have hnb108 := NB180_166.out
                                  have hnc108 := NB166_180.out
                                  have hcz109_0 : wc.cell? ⟨gb180, 0, none⟩ = some (.int .i64 x181000_19) := (blk_cell BK180.out 0).trans rfl
                                  have hcz109_1 : wc.cell? ⟨gb180, 1, none⟩ = some (.int .i64 x181001_19) := (blk_cell BK180.out 1).trans rfl
                                  have hcz109_2 : wc.cell? ⟨gb180, 2, none⟩ = some (.int .i64 x181002_19) := (blk_cell BK180.out 2).trans rfl
                                  have hcz109_3 : wc.cell? ⟨gb180, 3, none⟩ = some (.int .i64 x181003_19) := (blk_cell BK180.out 3).trans rfl
                                  have hfz109_0 := blk_frozen BK180.out 0
                                  have hfz109_1 := blk_frozen BK180.out 1
                                  have hfz109_2 := blk_frozen BK180.out 2
                                  have hfz109_3 := blk_frozen BK180.out 3
                                  go_wp2_with (first | ((with_reducible refine gate_callee (f := 8) rfl ?_); refine goesL_ (some 88) rfl rfl Try.func8 (by kernel_rfl) rfl #[.agg #[.int .i64 x181000_19, .int .i64 x181001_19, .int .i64 x181002_19, .int .i64 x181003_19]] rfl (by (try simp only [List.map_toArray, List.map_cons, List.map_nil]); first | done | rfl | (simp only [List.length_drop, List.length_take]; rfl)) ?_; (with_reducible refine (pay_Right.calls x181000_19 x181001_19 x181002_19 x181003_19 true _ A71.out).mono ?_); rintro e w110 ⟨rfl, hb⟩; refine ⟨_, rfl, ?_⟩; have n0_ := kb_ BK133 hb; have n1_ := kb_ BK166 hb; have n2_ := kb_ BK180 hb; have n3_ := hs_ HB hb; clear BK133; clear BK166; clear BK180; clear HB; have BK133 := n0_; have BK166 := n1_; have BK180 := n2_; have HB := n3_; clear n0_ n1_ n2_ n3_; (try clear hb); (try clear hb2); (try clear hk); (try clear hi); have hcz111_0 : w110.cell? ⟨gb180, 0, none⟩ = some (.int .i64 x181000_19) := (blk_cell BK180.out 0).trans rfl; have hcz111_1 : w110.cell? ⟨gb180, 1, none⟩ = some (.int .i64 x181001_19) := (blk_cell BK180.out 1).trans rfl; have hcz111_2 : w110.cell? ⟨gb180, 2, none⟩ = some (.int .i64 x181002_19) := (blk_cell BK180.out 2).trans rfl; have hcz111_3 : w110.cell? ⟨gb180, 3, none⟩ = some (.int .i64 x181003_19) := (blk_cell BK180.out 3).trans rfl; have hfz111_0 := blk_frozen BK180.out 0; have hfz111_1 := blk_frozen BK180.out 1; have hfz111_2 := blk_frozen BK180.out 2; have hfz111_3 := blk_frozen BK180.out 3; have hnb112 := NB133_166.out; have hnc112 := NB166_133.out; have hcz113_0 : w110.cell? ⟨gb133, 0, none⟩ = some (.int .i64 x134000_1) := (blk_cell BK133.out 0).trans rfl; have hcz113_1 : w110.cell? ⟨gb133, 1, none⟩ = some (.int .i64 x134001_1) := (blk_cell BK133.out 1).trans rfl; have hcz113_2 : w110.cell? ⟨gb133, 2, none⟩ = some (.int .i64 x134002_1) := (blk_cell BK133.out 2).trans rfl; have hcz113_3 : w110.cell? ⟨gb133, 3, none⟩ = some (.int .i64 x134003_1) := (blk_cell BK133.out 3).trans rfl; have hfz113_0 := blk_frozen BK133.out 0; have hfz113_1 := blk_frozen BK133.out 1; have hfz113_2 := blk_frozen BK133.out 2; have hfz113_3 := blk_frozen BK133.out 3) | (go_at_call 10; (with_reducible refine (pay_Good.calls x181000_19 x181001_19 x181002_19 x181003_19 (-1) false _ A77.out).mono ?_); rintro e w114 ⟨rfl, hb⟩; have n0_ := kb_ BK133 hb; have n1_ := kb_ BK166 hb; have n2_ := kb_ BK180 hb; have n3_ := hs_ HB hb; clear BK133; clear BK166; clear BK180; clear HB; have BK133 := n0_; have BK166 := n1_; have BK180 := n2_; have HB := n3_; clear n0_ n1_ n2_ n3_; (try clear hb); (try clear hb2); (try clear hk); (try clear hi); have hcz115_0 : w114.cell? ⟨gb180, 0, none⟩ = some (.int .i64 x181000_19) := (blk_cell BK180.out 0).trans rfl; have hcz115_1 : w114.cell? ⟨gb180, 1, none⟩ = some (.int .i64 x181001_19) := (blk_cell BK180.out 1).trans rfl; have hcz115_2 : w114.cell? ⟨gb180, 2, none⟩ = some (.int .i64 x181002_19) := (blk_cell BK180.out 2).trans rfl; have hcz115_3 : w114.cell? ⟨gb180, 3, none⟩ = some (.int .i64 x181003_19) := (blk_cell BK180.out 3).trans rfl; have hfz115_0 := blk_frozen BK180.out 0; have hfz115_1 := blk_frozen BK180.out 1; have hfz115_2 := blk_frozen BK180.out 2; have hfz115_3 := blk_frozen BK180.out 3; have hcz116_0 : w114.cell? ⟨gb133, 0, none⟩ = some (.int .i64 x134000_1) := (blk_cell BK133.out 0).trans rfl; have hcz116_1 : w114.cell? ⟨gb133, 1, none⟩ = some (.int .i64 x134001_1) := (blk_cell BK133.out 1).trans rfl; have hcz116_2 : w114.cell? ⟨gb133, 2, none⟩ = some (.int .i64 x134002_1) := (blk_cell BK133.out 2).trans rfl; have hcz116_3 : w114.cell? ⟨gb133, 3, none⟩ = some (.int .i64 x134003_1) := (blk_cell BK133.out 3).trans rfl; have hfz116_0 := blk_frozen BK133.out 0; have hfz116_1 := blk_frozen BK133.out 1; have hfz116_2 := blk_frozen BK133.out 2; have hfz116_3 := blk_frozen BK133.out 3))
                                  go_roundg kj19
                                  case measure => have := HK1.out; have := HJ19.out; omega
                                  case rel => exact ⟨(x9_19), (wrap64 (x34_1 + 1)), (x181000_19), (x181001_19), (x181002_19), (x181003_19), (by first | rfl | (simp; done) | (simp [*]; done)), (by first | rfl | (simp; done) | (simp [*]; done)), H', ⟨by have := HK1.out; have := HJ19.out; omega⟩, ⟨by (with_reducible repeat (first | refine blk_drewN ?_ _ | refine blk_drew ?_ | refine blk_alloc ?_ _)); refine blk_put (cs := #[.int .i64 x181000_19, .int .i64 x181001_19, .int .i64 x181002_19, .int .i64 x134003_1]) ?_ 3 _ rfl; (with_reducible repeat (first | refine blk_drewN ?_ _ | refine blk_drew ?_ | refine blk_alloc ?_ _)); refine blk_put (cs := #[.int .i64 x181000_19, .int .i64 x181001_19, .int .i64 x134002_1, .int .i64 x134003_1]) ?_ 2 _ rfl; (with_reducible repeat (first | refine blk_drewN ?_ _ | refine blk_drew ?_ | refine blk_alloc ?_ _)); refine blk_put (cs := #[.int .i64 x181000_19, .int .i64 x134001_1, .int .i64 x134002_1, .int .i64 x134003_1]) ?_ 1 _ rfl; (with_reducible repeat (first | refine blk_drewN ?_ _ | refine blk_drew ?_ | refine blk_alloc ?_ _)); refine blk_put (cs := #[.int .i64 x134000_1, .int .i64 x134001_1, .int .i64 x134002_1, .int .i64 x134003_1]) ?_ 0 _ rfl; (with_reducible repeat (first | refine blk_drewN ?_ _ | refine blk_drew ?_ | refine blk_alloc ?_ _)); exact BK133.out⟩, ⟨hh_ HB⟩⟩
                            · rw [if_neg c75] at H
                              have c75b0 : (x134003_1 == 3) = false := beq_eq_false_iff_ne.mpr c75
                              have c75b1 : (x134003_1 != 3) = true := bne_iff_ne.mpr c75
                              replace H := Option.bind_eq_some_iff.mp H
                              obtain ⟨t230, A1170, H⟩ := H
                              replace H : (if t230 = true then ((pay_Good.f x134000_1 x134001_1 x134002_1 x134003_1 (-1)).bind fun t231 => (if t231 = true then (tarrylaw11_PayKeeps.l0 kj19 (wrap64 (1 + (Int.tmod (wrap64 ((Int.tmod a0 100) + 100)) 100))) (wrap64 (1 + (Int.tmod (wrap64 ((Int.tmod a1 100) + 100)) 100))) x9_19 l2 (l2.length : Int) (wrap64 (x34_1 + 1)) x181000_19 x181001_19 x181002_19 x181003_19) else (if (Int.tmod (wrap64 ((Int.tmod ((rd_T39 l2 x34_1).f0) 4) + 4)) 4) = 1 then (tarrylaw11_PayKeeps.l0 kj19 (wrap64 (1 + (Int.tmod (wrap64 ((Int.tmod a0 100) + 100)) 100))) (wrap64 (1 + (Int.tmod (wrap64 ((Int.tmod a1 100) + 100)) 100))) x9_19 l2 (l2.length : Int) (wrap64 (x34_1 + 1)) x181000_19 x181001_19 x181002_19 x181003_19) else (none)))) else (tarrylaw11_PayKeeps.l0 kj19 (wrap64 (1 + (Int.tmod (wrap64 ((Int.tmod a0 100) + 100)) 100))) (wrap64 (1 + (Int.tmod (wrap64 ((Int.tmod a1 100) + 100)) 100))) x9_19 l2 (l2.length : Int) (wrap64 (x34_1 + 1)) x181000_19 x181001_19 x181002_19 x181003_19)) = some r := H
                              have A117 := Aside0.mk A1170
                              clear A1170
                              by_cases c118 : t230 = true
                              · subst c118
                                have H1 : ((pay_Good.f x134000_1 x134001_1 x134002_1 x134003_1 (-1)).bind fun t231 => (if t231 = true then (tarrylaw11_PayKeeps.l0 kj19 (wrap64 (1 + (Int.tmod (wrap64 ((Int.tmod a0 100) + 100)) 100))) (wrap64 (1 + (Int.tmod (wrap64 ((Int.tmod a1 100) + 100)) 100))) x9_19 l2 (l2.length : Int) (wrap64 (x34_1 + 1)) x181000_19 x181001_19 x181002_19 x181003_19) else (if (Int.tmod (wrap64 ((Int.tmod ((rd_T39 l2 x34_1).f0) 4) + 4)) 4) = 1 then (tarrylaw11_PayKeeps.l0 kj19 (wrap64 (1 + (Int.tmod (wrap64 ((Int.tmod a0 100) + 100)) 100))) (wrap64 (1 + (Int.tmod (wrap64 ((Int.tmod a1 100) + 100)) 100))) x9_19 l2 (l2.length : Int) (wrap64 (x34_1 + 1)) x181000_19 x181001_19 x181002_19 x181003_19) else (none)))) = some r := by rw [if_pos rfl] at H; exact H
                                clear H
                                have H := H1
                                clear H1
                                replace H := Option.bind_eq_some_iff.mp H
                                obtain ⟨t231, A1190, H⟩ := H
                                replace H : (if t231 = true then (tarrylaw11_PayKeeps.l0 kj19 (wrap64 (1 + (Int.tmod (wrap64 ((Int.tmod a0 100) + 100)) 100))) (wrap64 (1 + (Int.tmod (wrap64 ((Int.tmod a1 100) + 100)) 100))) x9_19 l2 (l2.length : Int) (wrap64 (x34_1 + 1)) x181000_19 x181001_19 x181002_19 x181003_19) else (if (Int.tmod (wrap64 ((Int.tmod ((rd_T39 l2 x34_1).f0) 4) + 4)) 4) = 1 then (tarrylaw11_PayKeeps.l0 kj19 (wrap64 (1 + (Int.tmod (wrap64 ((Int.tmod a0 100) + 100)) 100))) (wrap64 (1 + (Int.tmod (wrap64 ((Int.tmod a1 100) + 100)) 100))) x9_19 l2 (l2.length : Int) (wrap64 (x34_1 + 1)) x181000_19 x181001_19 x181002_19 x181003_19) else (none))) = some r := H
                                have A119 := Aside0.mk A1190
                                clear A1190
                                by_cases c120 : t231 = true
                                · subst c120
                                  have H1 : (tarrylaw11_PayKeeps.l0 kj19 (wrap64 (1 + (Int.tmod (wrap64 ((Int.tmod a0 100) + 100)) 100))) (wrap64 (1 + (Int.tmod (wrap64 ((Int.tmod a1 100) + 100)) 100))) x9_19 l2 (l2.length : Int) (wrap64 (x34_1 + 1)) x181000_19 x181001_19 x181002_19 x181003_19) = some r := by rw [if_pos rfl] at H; exact H
                                  clear H
                                  have H := H1
                                  clear H1
                                  have H' := Aside0.mk H
                                  clear H
                                  have hnb121 := NB180_133.out
                                  have hnc121 := NB133_180.out
                                  have hnb122 := NB180_166.out
                                  have hnc122 := NB166_180.out
                                  have hcz123_0 : wc.cell? ⟨gb180, 0, none⟩ = some (.int .i64 x181000_19) := (blk_cell BK180.out 0).trans rfl
                                  have hcz123_1 : wc.cell? ⟨gb180, 1, none⟩ = some (.int .i64 x181001_19) := (blk_cell BK180.out 1).trans rfl
                                  have hcz123_2 : wc.cell? ⟨gb180, 2, none⟩ = some (.int .i64 x181002_19) := (blk_cell BK180.out 2).trans rfl
                                  have hcz123_3 : wc.cell? ⟨gb180, 3, none⟩ = some (.int .i64 x181003_19) := (blk_cell BK180.out 3).trans rfl
                                  have hfz123_0 := blk_frozen BK180.out 0
                                  have hfz123_1 := blk_frozen BK180.out 1
                                  have hfz123_2 := blk_frozen BK180.out 2
                                  have hfz123_3 := blk_frozen BK180.out 3
                                  go_wp2_with (first | ((with_reducible refine gate_callee (f := 8) rfl ?_); refine goesL_ (some 88) rfl rfl Try.func8 (by kernel_rfl) rfl #[.agg #[.int .i64 x181000_19, .int .i64 x181001_19, .int .i64 x181002_19, .int .i64 x181003_19]] rfl (by (try simp only [List.map_toArray, List.map_cons, List.map_nil]); first | done | rfl | (simp only [List.length_drop, List.length_take]; rfl)) ?_; (with_reducible refine (pay_Right.calls x181000_19 x181001_19 x181002_19 x181003_19 true _ A71.out).mono ?_); rintro e w124 ⟨rfl, hb⟩; refine ⟨_, rfl, ?_⟩; have n0_ := kb_ BK133 hb; have n1_ := kb_ BK166 hb; have n2_ := kb_ BK180 hb; have n3_ := hs_ HB hb; clear BK133; clear BK166; clear BK180; clear HB; have BK133 := n0_; have BK166 := n1_; have BK180 := n2_; have HB := n3_; clear n0_ n1_ n2_ n3_; (try clear hb); (try clear hb2); (try clear hk); (try clear hi); have hcz125_0 : w124.cell? ⟨gb180, 0, none⟩ = some (.int .i64 x181000_19) := (blk_cell BK180.out 0).trans rfl; have hcz125_1 : w124.cell? ⟨gb180, 1, none⟩ = some (.int .i64 x181001_19) := (blk_cell BK180.out 1).trans rfl; have hcz125_2 : w124.cell? ⟨gb180, 2, none⟩ = some (.int .i64 x181002_19) := (blk_cell BK180.out 2).trans rfl; have hcz125_3 : w124.cell? ⟨gb180, 3, none⟩ = some (.int .i64 x181003_19) := (blk_cell BK180.out 3).trans rfl; have hfz125_0 := blk_frozen BK180.out 0; have hfz125_1 := blk_frozen BK180.out 1; have hfz125_2 := blk_frozen BK180.out 2; have hfz125_3 := blk_frozen BK180.out 3; have hnb126 := NB133_166.out; have hnc126 := NB166_133.out; have hcz127_0 : w124.cell? ⟨gb133, 0, none⟩ = some (.int .i64 x134000_1) := (blk_cell BK133.out 0).trans rfl; have hcz127_1 : w124.cell? ⟨gb133, 1, none⟩ = some (.int .i64 x134001_1) := (blk_cell BK133.out 1).trans rfl; have hcz127_2 : w124.cell? ⟨gb133, 2, none⟩ = some (.int .i64 x134002_1) := (blk_cell BK133.out 2).trans rfl; have hcz127_3 : w124.cell? ⟨gb133, 3, none⟩ = some (.int .i64 x134003_1) := (blk_cell BK133.out 3).trans rfl; have hfz127_0 := blk_frozen BK133.out 0; have hfz127_1 := blk_frozen BK133.out 1; have hfz127_2 := blk_frozen BK133.out 2; have hfz127_3 := blk_frozen BK133.out 3) | (go_at_call 10; (with_reducible refine (pay_Good.calls x181000_19 x181001_19 x181002_19 x181003_19 (-1) true _ A117.out).mono ?_); rintro e w128 ⟨rfl, hb⟩; have n0_ := kb_ BK133 hb; have n1_ := kb_ BK166 hb; have n2_ := kb_ BK180 hb; have n3_ := hs_ HB hb; clear BK133; clear BK166; clear BK180; clear HB; have BK133 := n0_; have BK166 := n1_; have BK180 := n2_; have HB := n3_; clear n0_ n1_ n2_ n3_; (try clear hb); (try clear hb2); (try clear hk); (try clear hi); have hcz129_0 : w128.cell? ⟨gb133, 0, none⟩ = some (.int .i64 x134000_1) := (blk_cell BK133.out 0).trans rfl; have hcz129_1 : w128.cell? ⟨gb133, 1, none⟩ = some (.int .i64 x134001_1) := (blk_cell BK133.out 1).trans rfl; have hcz129_2 : w128.cell? ⟨gb133, 2, none⟩ = some (.int .i64 x134002_1) := (blk_cell BK133.out 2).trans rfl; have hcz129_3 : w128.cell? ⟨gb133, 3, none⟩ = some (.int .i64 x134003_1) := (blk_cell BK133.out 3).trans rfl; have hfz129_0 := blk_frozen BK133.out 0; have hfz129_1 := blk_frozen BK133.out 1; have hfz129_2 := blk_frozen BK133.out 2; have hfz129_3 := blk_frozen BK133.out 3) | (go_at_call 10; (with_reducible refine (pay_Good.calls x134000_1 x134001_1 x134002_1 x134003_1 (-1) true _ A119.out).mono ?_); rintro e w130 ⟨rfl, hb⟩; have n0_ := kb_ BK133 hb; have n1_ := kb_ BK166 hb; have n2_ := kb_ BK180 hb; have n3_ := hs_ HB hb; clear BK133; clear BK166; clear BK180; clear HB; have BK133 := n0_; have BK166 := n1_; have BK180 := n2_; have HB := n3_; clear n0_ n1_ n2_ n3_; (try clear hb); (try clear hb2); (try clear hk); (try clear hi); have hcz131_0 : w130.cell? ⟨gb180, 0, none⟩ = some (.int .i64 x181000_19) := (blk_cell BK180.out 0).trans rfl; have hcz131_1 : w130.cell? ⟨gb180, 1, none⟩ = some (.int .i64 x181001_19) := (blk_cell BK180.out 1).trans rfl; have hcz131_2 : w130.cell? ⟨gb180, 2, none⟩ = some (.int .i64 x181002_19) := (blk_cell BK180.out 2).trans rfl; have hcz131_3 : w130.cell? ⟨gb180, 3, none⟩ = some (.int .i64 x181003_19) := (blk_cell BK180.out 3).trans rfl; have hfz131_0 := blk_frozen BK180.out 0; have hfz131_1 := blk_frozen BK180.out 1; have hfz131_2 := blk_frozen BK180.out 2; have hfz131_3 := blk_frozen BK180.out 3; have hcz132_0 : w130.cell? ⟨gb133, 0, none⟩ = some (.int .i64 x134000_1) := (blk_cell BK133.out 0).trans rfl; have hcz132_1 : w130.cell? ⟨gb133, 1, none⟩ = some (.int .i64 x134001_1) := (blk_cell BK133.out 1).trans rfl; have hcz132_2 : w130.cell? ⟨gb133, 2, none⟩ = some (.int .i64 x134002_1) := (blk_cell BK133.out 2).trans rfl; have hcz132_3 : w130.cell? ⟨gb133, 3, none⟩ = some (.int .i64 x134003_1) := (blk_cell BK133.out 3).trans rfl; have hfz132_0 := blk_frozen BK133.out 0; have hfz132_1 := blk_frozen BK133.out 1; have hfz132_2 := blk_frozen BK133.out 2; have hfz132_3 := blk_frozen BK133.out 3))
                                  go_roundg kj19
                                  case measure => have := HK1.out; have := HJ19.out; omega
                                  case rel => exact ⟨(x9_19), (wrap64 (x34_1 + 1)), (x181000_19), (x181001_19), (x181002_19), (x181003_19), (by first | rfl | (simp; done) | (simp [*]; done)), (by first | rfl | (simp; done) | (simp [*]; done)), H', ⟨by have := HK1.out; have := HJ19.out; omega⟩, ⟨by (with_reducible repeat (first | refine blk_drewN ?_ _ | refine blk_drew ?_ | refine blk_alloc ?_ _)); refine blk_put (cs := #[.int .i64 x181000_19, .int .i64 x181001_19, .int .i64 x181002_19, .int .i64 x134003_1]) ?_ 3 _ rfl; (with_reducible repeat (first | refine blk_drewN ?_ _ | refine blk_drew ?_ | refine blk_alloc ?_ _)); refine blk_put (cs := #[.int .i64 x181000_19, .int .i64 x181001_19, .int .i64 x134002_1, .int .i64 x134003_1]) ?_ 2 _ rfl; (with_reducible repeat (first | refine blk_drewN ?_ _ | refine blk_drew ?_ | refine blk_alloc ?_ _)); refine blk_put (cs := #[.int .i64 x181000_19, .int .i64 x134001_1, .int .i64 x134002_1, .int .i64 x134003_1]) ?_ 1 _ rfl; (with_reducible repeat (first | refine blk_drewN ?_ _ | refine blk_drew ?_ | refine blk_alloc ?_ _)); refine blk_put (cs := #[.int .i64 x134000_1, .int .i64 x134001_1, .int .i64 x134002_1, .int .i64 x134003_1]) ?_ 0 _ rfl; (with_reducible repeat (first | refine blk_drewN ?_ _ | refine blk_drew ?_ | refine blk_alloc ?_ _)); exact BK133.out⟩, ⟨hh_ HB⟩⟩
                                · replace c120 := Bool.eq_false_iff.mpr c120
                                  subst c120
                                  have H1 : (if (Int.tmod (wrap64 ((Int.tmod ((rd_T39 l2 x34_1).f0) 4) + 4)) 4) = 1 then (tarrylaw11_PayKeeps.l0 kj19 (wrap64 (1 + (Int.tmod (wrap64 ((Int.tmod a0 100) + 100)) 100))) (wrap64 (1 + (Int.tmod (wrap64 ((Int.tmod a1 100) + 100)) 100))) x9_19 l2 (l2.length : Int) (wrap64 (x34_1 + 1)) x181000_19 x181001_19 x181002_19 x181003_19) else (none)) = some r := by rw [if_neg (show ¬ (false = true) by decide)] at H; exact H
                                  clear H
                                  have H := H1
                                  clear H1
                                  by_cases c133 : (Int.tmod (wrap64 ((Int.tmod ((rd_T39 l2 x34_1).f0) 4) + 4)) 4) = 1
                                  · rw [if_pos c133] at H
                                    have c133b0 : ((Int.tmod (wrap64 ((Int.tmod ((rd_T39 l2 x34_1).f0) 4) + 4)) 4) == 1) = true := beq_iff_eq.mpr c133
                                    have c133b1 : ((Int.tmod (wrap64 ((Int.tmod ((rd_T39 l2 x34_1).f0) 4) + 4)) 4) != 1) = false := bne_eq_false_iff_eq.mpr c133
                                    clear c133
                                    have H' := Aside0.mk H
                                    clear H
                                    have hnb134 := NB180_133.out
                                    have hnc134 := NB133_180.out
                                    have hnb135 := NB180_166.out
                                    have hnc135 := NB166_180.out
                                    have hcz136_0 : wc.cell? ⟨gb180, 0, none⟩ = some (.int .i64 x181000_19) := (blk_cell BK180.out 0).trans rfl
                                    have hcz136_1 : wc.cell? ⟨gb180, 1, none⟩ = some (.int .i64 x181001_19) := (blk_cell BK180.out 1).trans rfl
                                    have hcz136_2 : wc.cell? ⟨gb180, 2, none⟩ = some (.int .i64 x181002_19) := (blk_cell BK180.out 2).trans rfl
                                    have hcz136_3 : wc.cell? ⟨gb180, 3, none⟩ = some (.int .i64 x181003_19) := (blk_cell BK180.out 3).trans rfl
                                    have hfz136_0 := blk_frozen BK180.out 0
                                    have hfz136_1 := blk_frozen BK180.out 1
                                    have hfz136_2 := blk_frozen BK180.out 2
                                    have hfz136_3 := blk_frozen BK180.out 3
                                    go_wp2_with (first | ((with_reducible refine gate_callee (f := 8) rfl ?_); refine goesL_ (some 88) rfl rfl Try.func8 (by kernel_rfl) rfl #[.agg #[.int .i64 x181000_19, .int .i64 x181001_19, .int .i64 x181002_19, .int .i64 x181003_19]] rfl (by (try simp only [List.map_toArray, List.map_cons, List.map_nil]); first | done | rfl | (simp only [List.length_drop, List.length_take]; rfl)) ?_; (with_reducible refine (pay_Right.calls x181000_19 x181001_19 x181002_19 x181003_19 true _ A71.out).mono ?_); rintro e w137 ⟨rfl, hb⟩; refine ⟨_, rfl, ?_⟩; have n0_ := kb_ BK133 hb; have n1_ := kb_ BK166 hb; have n2_ := kb_ BK180 hb; have n3_ := hs_ HB hb; clear BK133; clear BK166; clear BK180; clear HB; have BK133 := n0_; have BK166 := n1_; have BK180 := n2_; have HB := n3_; clear n0_ n1_ n2_ n3_; (try clear hb); (try clear hb2); (try clear hk); (try clear hi); have hcz138_0 : w137.cell? ⟨gb180, 0, none⟩ = some (.int .i64 x181000_19) := (blk_cell BK180.out 0).trans rfl; have hcz138_1 : w137.cell? ⟨gb180, 1, none⟩ = some (.int .i64 x181001_19) := (blk_cell BK180.out 1).trans rfl; have hcz138_2 : w137.cell? ⟨gb180, 2, none⟩ = some (.int .i64 x181002_19) := (blk_cell BK180.out 2).trans rfl; have hcz138_3 : w137.cell? ⟨gb180, 3, none⟩ = some (.int .i64 x181003_19) := (blk_cell BK180.out 3).trans rfl; have hfz138_0 := blk_frozen BK180.out 0; have hfz138_1 := blk_frozen BK180.out 1; have hfz138_2 := blk_frozen BK180.out 2; have hfz138_3 := blk_frozen BK180.out 3; have hnb139 := NB133_166.out; have hnc139 := NB166_133.out; have hcz140_0 : w137.cell? ⟨gb133, 0, none⟩ = some (.int .i64 x134000_1) := (blk_cell BK133.out 0).trans rfl; have hcz140_1 : w137.cell? ⟨gb133, 1, none⟩ = some (.int .i64 x134001_1) := (blk_cell BK133.out 1).trans rfl; have hcz140_2 : w137.cell? ⟨gb133, 2, none⟩ = some (.int .i64 x134002_1) := (blk_cell BK133.out 2).trans rfl; have hcz140_3 : w137.cell? ⟨gb133, 3, none⟩ = some (.int .i64 x134003_1) := (blk_cell BK133.out 3).trans rfl; have hfz140_0 := blk_frozen BK133.out 0; have hfz140_1 := blk_frozen BK133.out 1; have hfz140_2 := blk_frozen BK133.out 2; have hfz140_3 := blk_frozen BK133.out 3) | (go_at_call 10; (with_reducible refine (pay_Good.calls x181000_19 x181001_19 x181002_19 x181003_19 (-1) true _ A117.out).mono ?_); rintro e w141 ⟨rfl, hb⟩; have n0_ := kb_ BK133 hb; have n1_ := kb_ BK166 hb; have n2_ := kb_ BK180 hb; have n3_ := hs_ HB hb; clear BK133; clear BK166; clear BK180; clear HB; have BK133 := n0_; have BK166 := n1_; have BK180 := n2_; have HB := n3_; clear n0_ n1_ n2_ n3_; (try clear hb); (try clear hb2); (try clear hk); (try clear hi); have hcz142_0 : w141.cell? ⟨gb133, 0, none⟩ = some (.int .i64 x134000_1) := (blk_cell BK133.out 0).trans rfl; have hcz142_1 : w141.cell? ⟨gb133, 1, none⟩ = some (.int .i64 x134001_1) := (blk_cell BK133.out 1).trans rfl; have hcz142_2 : w141.cell? ⟨gb133, 2, none⟩ = some (.int .i64 x134002_1) := (blk_cell BK133.out 2).trans rfl; have hcz142_3 : w141.cell? ⟨gb133, 3, none⟩ = some (.int .i64 x134003_1) := (blk_cell BK133.out 3).trans rfl; have hfz142_0 := blk_frozen BK133.out 0; have hfz142_1 := blk_frozen BK133.out 1; have hfz142_2 := blk_frozen BK133.out 2; have hfz142_3 := blk_frozen BK133.out 3) | (go_at_call 10; (with_reducible refine (pay_Good.calls x134000_1 x134001_1 x134002_1 x134003_1 (-1) false _ A119.out).mono ?_); rintro e w143 ⟨rfl, hb⟩; have n0_ := kb_ BK133 hb; have n1_ := kb_ BK166 hb; have n2_ := kb_ BK180 hb; have n3_ := hs_ HB hb; clear BK133; clear BK166; clear BK180; clear HB; have BK133 := n0_; have BK166 := n1_; have BK180 := n2_; have HB := n3_; clear n0_ n1_ n2_ n3_; (try clear hb); (try clear hb2); (try clear hk); (try clear hi); have hcz144_0 : w143.cell? ⟨gb166, 0, none⟩ = some (.int .i64 ((rd_T39 l2 x34_1).f0)) := (blk_cell BK166.out 0).trans rfl; have hcz144_1 : w143.cell? ⟨gb166, 1, none⟩ = some (.int .i64 ((rd_T39 l2 x34_1).f1)) := (blk_cell BK166.out 1).trans rfl; have hfz144_0 := blk_frozen BK166.out 0; have hfz144_1 := blk_frozen BK166.out 1; have hcz145_0 : w143.cell? ⟨gb180, 0, none⟩ = some (.int .i64 x181000_19) := (blk_cell BK180.out 0).trans rfl; have hcz145_1 : w143.cell? ⟨gb180, 1, none⟩ = some (.int .i64 x181001_19) := (blk_cell BK180.out 1).trans rfl; have hcz145_2 : w143.cell? ⟨gb180, 2, none⟩ = some (.int .i64 x181002_19) := (blk_cell BK180.out 2).trans rfl; have hcz145_3 : w143.cell? ⟨gb180, 3, none⟩ = some (.int .i64 x181003_19) := (blk_cell BK180.out 3).trans rfl; have hfz145_0 := blk_frozen BK180.out 0; have hfz145_1 := blk_frozen BK180.out 1; have hfz145_2 := blk_frozen BK180.out 2; have hfz145_3 := blk_frozen BK180.out 3; have hcz146_0 : w143.cell? ⟨gb133, 0, none⟩ = some (.int .i64 x134000_1) := (blk_cell BK133.out 0).trans rfl; have hcz146_1 : w143.cell? ⟨gb133, 1, none⟩ = some (.int .i64 x134001_1) := (blk_cell BK133.out 1).trans rfl; have hcz146_2 : w143.cell? ⟨gb133, 2, none⟩ = some (.int .i64 x134002_1) := (blk_cell BK133.out 2).trans rfl; have hcz146_3 : w143.cell? ⟨gb133, 3, none⟩ = some (.int .i64 x134003_1) := (blk_cell BK133.out 3).trans rfl; have hfz146_0 := blk_frozen BK133.out 0; have hfz146_1 := blk_frozen BK133.out 1; have hfz146_2 := blk_frozen BK133.out 2; have hfz146_3 := blk_frozen BK133.out 3))
                                    go_roundg kj19
                                    case measure => have := HK1.out; have := HJ19.out; omega
                                    case rel => exact ⟨(x9_19), (wrap64 (x34_1 + 1)), (x181000_19), (x181001_19), (x181002_19), (x181003_19), (by first | rfl | (simp; done) | (simp [*]; done)), (by first | rfl | (simp; done) | (simp [*]; done)), H', ⟨by have := HK1.out; have := HJ19.out; omega⟩, ⟨by (with_reducible repeat (first | refine blk_drewN ?_ _ | refine blk_drew ?_ | refine blk_alloc ?_ _)); refine blk_put (cs := #[.int .i64 x181000_19, .int .i64 x181001_19, .int .i64 x181002_19, .int .i64 x134003_1]) ?_ 3 _ rfl; (with_reducible repeat (first | refine blk_drewN ?_ _ | refine blk_drew ?_ | refine blk_alloc ?_ _)); refine blk_put (cs := #[.int .i64 x181000_19, .int .i64 x181001_19, .int .i64 x134002_1, .int .i64 x134003_1]) ?_ 2 _ rfl; (with_reducible repeat (first | refine blk_drewN ?_ _ | refine blk_drew ?_ | refine blk_alloc ?_ _)); refine blk_put (cs := #[.int .i64 x181000_19, .int .i64 x134001_1, .int .i64 x134002_1, .int .i64 x134003_1]) ?_ 1 _ rfl; (with_reducible repeat (first | refine blk_drewN ?_ _ | refine blk_drew ?_ | refine blk_alloc ?_ _)); refine blk_put (cs := #[.int .i64 x134000_1, .int .i64 x134001_1, .int .i64 x134002_1, .int .i64 x134003_1]) ?_ 0 _ rfl; (with_reducible repeat (first | refine blk_drewN ?_ _ | refine blk_drew ?_ | refine blk_alloc ?_ _)); exact BK133.out⟩, ⟨hh_ HB⟩⟩
                                  · rw [if_neg c133] at H
                                    exact absurd H (by simp)
                              · replace c118 := Bool.eq_false_iff.mpr c118
                                subst c118
                                have H1 : (tarrylaw11_PayKeeps.l0 kj19 (wrap64 (1 + (Int.tmod (wrap64 ((Int.tmod a0 100) + 100)) 100))) (wrap64 (1 + (Int.tmod (wrap64 ((Int.tmod a1 100) + 100)) 100))) x9_19 l2 (l2.length : Int) (wrap64 (x34_1 + 1)) x181000_19 x181001_19 x181002_19 x181003_19) = some r := by rw [if_neg (show ¬ (false = true) by decide)] at H; exact H
                                clear H
                                have H := H1
                                clear H1
                                have H' := Aside0.mk H
                                clear H
                                have hnb147 := NB180_133.out
                                have hnc147 := NB133_180.out
                                have hnb148 := NB180_166.out
                                have hnc148 := NB166_180.out
                                have hcz149_0 : wc.cell? ⟨gb180, 0, none⟩ = some (.int .i64 x181000_19) := (blk_cell BK180.out 0).trans rfl
                                have hcz149_1 : wc.cell? ⟨gb180, 1, none⟩ = some (.int .i64 x181001_19) := (blk_cell BK180.out 1).trans rfl
                                have hcz149_2 : wc.cell? ⟨gb180, 2, none⟩ = some (.int .i64 x181002_19) := (blk_cell BK180.out 2).trans rfl
                                have hcz149_3 : wc.cell? ⟨gb180, 3, none⟩ = some (.int .i64 x181003_19) := (blk_cell BK180.out 3).trans rfl
                                have hfz149_0 := blk_frozen BK180.out 0
                                have hfz149_1 := blk_frozen BK180.out 1
                                have hfz149_2 := blk_frozen BK180.out 2
                                have hfz149_3 := blk_frozen BK180.out 3
                                go_wp2_with (first | ((with_reducible refine gate_callee (f := 8) rfl ?_); refine goesL_ (some 88) rfl rfl Try.func8 (by kernel_rfl) rfl #[.agg #[.int .i64 x181000_19, .int .i64 x181001_19, .int .i64 x181002_19, .int .i64 x181003_19]] rfl (by (try simp only [List.map_toArray, List.map_cons, List.map_nil]); first | done | rfl | (simp only [List.length_drop, List.length_take]; rfl)) ?_; (with_reducible refine (pay_Right.calls x181000_19 x181001_19 x181002_19 x181003_19 true _ A71.out).mono ?_); rintro e w150 ⟨rfl, hb⟩; refine ⟨_, rfl, ?_⟩; have n0_ := kb_ BK133 hb; have n1_ := kb_ BK166 hb; have n2_ := kb_ BK180 hb; have n3_ := hs_ HB hb; clear BK133; clear BK166; clear BK180; clear HB; have BK133 := n0_; have BK166 := n1_; have BK180 := n2_; have HB := n3_; clear n0_ n1_ n2_ n3_; (try clear hb); (try clear hb2); (try clear hk); (try clear hi); have hcz151_0 : w150.cell? ⟨gb180, 0, none⟩ = some (.int .i64 x181000_19) := (blk_cell BK180.out 0).trans rfl; have hcz151_1 : w150.cell? ⟨gb180, 1, none⟩ = some (.int .i64 x181001_19) := (blk_cell BK180.out 1).trans rfl; have hcz151_2 : w150.cell? ⟨gb180, 2, none⟩ = some (.int .i64 x181002_19) := (blk_cell BK180.out 2).trans rfl; have hcz151_3 : w150.cell? ⟨gb180, 3, none⟩ = some (.int .i64 x181003_19) := (blk_cell BK180.out 3).trans rfl; have hfz151_0 := blk_frozen BK180.out 0; have hfz151_1 := blk_frozen BK180.out 1; have hfz151_2 := blk_frozen BK180.out 2; have hfz151_3 := blk_frozen BK180.out 3; have hnb152 := NB133_166.out; have hnc152 := NB166_133.out; have hcz153_0 : w150.cell? ⟨gb133, 0, none⟩ = some (.int .i64 x134000_1) := (blk_cell BK133.out 0).trans rfl; have hcz153_1 : w150.cell? ⟨gb133, 1, none⟩ = some (.int .i64 x134001_1) := (blk_cell BK133.out 1).trans rfl; have hcz153_2 : w150.cell? ⟨gb133, 2, none⟩ = some (.int .i64 x134002_1) := (blk_cell BK133.out 2).trans rfl; have hcz153_3 : w150.cell? ⟨gb133, 3, none⟩ = some (.int .i64 x134003_1) := (blk_cell BK133.out 3).trans rfl; have hfz153_0 := blk_frozen BK133.out 0; have hfz153_1 := blk_frozen BK133.out 1; have hfz153_2 := blk_frozen BK133.out 2; have hfz153_3 := blk_frozen BK133.out 3) | (go_at_call 10; (with_reducible refine (pay_Good.calls x181000_19 x181001_19 x181002_19 x181003_19 (-1) false _ A117.out).mono ?_); rintro e w154 ⟨rfl, hb⟩; have n0_ := kb_ BK133 hb; have n1_ := kb_ BK166 hb; have n2_ := kb_ BK180 hb; have n3_ := hs_ HB hb; clear BK133; clear BK166; clear BK180; clear HB; have BK133 := n0_; have BK166 := n1_; have BK180 := n2_; have HB := n3_; clear n0_ n1_ n2_ n3_; (try clear hb); (try clear hb2); (try clear hk); (try clear hi); have hcz155_0 : w154.cell? ⟨gb180, 0, none⟩ = some (.int .i64 x181000_19) := (blk_cell BK180.out 0).trans rfl; have hcz155_1 : w154.cell? ⟨gb180, 1, none⟩ = some (.int .i64 x181001_19) := (blk_cell BK180.out 1).trans rfl; have hcz155_2 : w154.cell? ⟨gb180, 2, none⟩ = some (.int .i64 x181002_19) := (blk_cell BK180.out 2).trans rfl; have hcz155_3 : w154.cell? ⟨gb180, 3, none⟩ = some (.int .i64 x181003_19) := (blk_cell BK180.out 3).trans rfl; have hfz155_0 := blk_frozen BK180.out 0; have hfz155_1 := blk_frozen BK180.out 1; have hfz155_2 := blk_frozen BK180.out 2; have hfz155_3 := blk_frozen BK180.out 3; have hcz156_0 : w154.cell? ⟨gb133, 0, none⟩ = some (.int .i64 x134000_1) := (blk_cell BK133.out 0).trans rfl; have hcz156_1 : w154.cell? ⟨gb133, 1, none⟩ = some (.int .i64 x134001_1) := (blk_cell BK133.out 1).trans rfl; have hcz156_2 : w154.cell? ⟨gb133, 2, none⟩ = some (.int .i64 x134002_1) := (blk_cell BK133.out 2).trans rfl; have hcz156_3 : w154.cell? ⟨gb133, 3, none⟩ = some (.int .i64 x134003_1) := (blk_cell BK133.out 3).trans rfl; have hfz156_0 := blk_frozen BK133.out 0; have hfz156_1 := blk_frozen BK133.out 1; have hfz156_2 := blk_frozen BK133.out 2; have hfz156_3 := blk_frozen BK133.out 3))
                                go_roundg kj19
                                case measure => have := HK1.out; have := HJ19.out; omega
                                case rel => exact ⟨(x9_19), (wrap64 (x34_1 + 1)), (x181000_19), (x181001_19), (x181002_19), (x181003_19), (by first | rfl | (simp; done) | (simp [*]; done)), (by first | rfl | (simp; done) | (simp [*]; done)), H', ⟨by have := HK1.out; have := HJ19.out; omega⟩, ⟨by (with_reducible repeat (first | refine blk_drewN ?_ _ | refine blk_drew ?_ | refine blk_alloc ?_ _)); refine blk_put (cs := #[.int .i64 x181000_19, .int .i64 x181001_19, .int .i64 x181002_19, .int .i64 x134003_1]) ?_ 3 _ rfl; (with_reducible repeat (first | refine blk_drewN ?_ _ | refine blk_drew ?_ | refine blk_alloc ?_ _)); refine blk_put (cs := #[.int .i64 x181000_19, .int .i64 x181001_19, .int .i64 x134002_1, .int .i64 x134003_1]) ?_ 2 _ rfl; (with_reducible repeat (first | refine blk_drewN ?_ _ | refine blk_drew ?_ | refine blk_alloc ?_ _)); refine blk_put (cs := #[.int .i64 x181000_19, .int .i64 x134001_1, .int .i64 x134002_1, .int .i64 x134003_1]) ?_ 1 _ rfl; (with_reducible repeat (first | refine blk_drewN ?_ _ | refine blk_drew ?_ | refine blk_alloc ?_ _)); refine blk_put (cs := #[.int .i64 x134000_1, .int .i64 x134001_1, .int .i64 x134002_1, .int .i64 x134003_1]) ?_ 0 _ rfl; (with_reducible repeat (first | refine blk_drewN ?_ _ | refine blk_drew ?_ | refine blk_alloc ?_ _)); exact BK133.out⟩, ⟨hh_ HB⟩⟩
                          · rw [if_neg c74] at H
                            exact absurd H (by simp)
                        · rw [if_neg c73] at H
                          exact absurd H (by simp)
                      · replace c72 := Bool.eq_false_iff.mpr c72
                        subst c72
                        have H1 : (none) = some r := by rw [if_neg (show ¬ (false = true) by decide)] at H; exact H
                        clear H
                        have H := H1
                        clear H1
                        exact absurd H (by simp)
                    · rw [if_neg c70] at H
                      have c70b0 : (x13_19 == 0) = false := beq_eq_false_iff_ne.mpr c70
                      have c70b1 : (x13_19 != 0) = true := bne_iff_ne.mpr c70
                      have H' := Aside0.mk H
                      clear H
                      go_wp2
                      go_roundg kj19
                      case measure => have := HK1.out; have := HJ19.out; omega
                      case rel => exact ⟨(x9_19), (wrap64 (x34_1 + 1)), (x134000_1), (x134001_1), (x134002_1), (x134003_1), (by first | rfl | (simp; done) | (simp [*]; done)), (by first | rfl | (simp; done) | (simp [*]; done)), H', ⟨by have := HK1.out; have := HJ19.out; omega⟩, ⟨kk_ BK133⟩, ⟨hh_ HB⟩⟩
            · rw [if_neg c11] at H
              exact absurd H (by simp)
          · rw [if_neg c10] at H
            exact absurd H (by simp)
        · rw [if_neg c9] at H
          have c9b0 : decide (x34_1 < (l2.length : Int)) = false := decide_eq_false c9
          clear c9
          replace H := Option.bind_eq_some_iff.mp H
          obtain ⟨t149, A1570, H⟩ := H
          replace H : (if t149 = true then (some (decide (x134001_1 ≤ (wrap64 ((wrap64 (1 + (Int.tmod (wrap64 ((Int.tmod a0 100) + 100)) 100))) * (wrap64 (1 + (Int.tmod (wrap64 ((Int.tmod a1 100) + 100)) 100)))))))) else (none)) = some r := H
          have A157 := Aside0.mk A1570
          clear A1570
          by_cases c158 : t149 = true
          · subst c158
            have H1 : (some (decide (x134001_1 ≤ (wrap64 ((wrap64 (1 + (Int.tmod (wrap64 ((Int.tmod a0 100) + 100)) 100))) * (wrap64 (1 + (Int.tmod (wrap64 ((Int.tmod a1 100) + 100)) 100)))))))) = some r := by rw [if_pos rfl] at H; exact H
            clear H
            have H := H1
            clear H1
            obtain rfl := Option.some.inj H
            go_wp2_with (first | ((with_reducible refine gate_callee (f := 11) rfl ?_); refine goesL_ (some 133) rfl rfl Try.func11 (by kernel_rfl) rfl #[] rfl (by (try simp only [List.map_toArray, List.map_cons, List.map_nil]); first | done | rfl | (simp only [List.length_drop, List.length_take]; rfl)) ?_; (with_reducible refine (tarrylaw11_alive.calls k1  true _ A157.out).mono ?_); rintro e w159 ⟨rfl, hb⟩; refine ⟨_, rfl, ?_⟩; have n0_ := kb_ BK133 hb; have n1_ := hs_ HB hb; clear BK133; clear HB; have BK133 := n0_; have HB := n1_; clear n0_ n1_; (try clear hb); (try clear hb2); (try clear hk); (try clear hi); have hcz160_0 : w159.cell? ⟨gb133, 0, none⟩ = some (.int .i64 x134000_1) := (blk_cell BK133.out 0).trans rfl; have hcz160_1 : w159.cell? ⟨gb133, 1, none⟩ = some (.int .i64 x134001_1) := (blk_cell BK133.out 1).trans rfl; have hcz160_2 : w159.cell? ⟨gb133, 2, none⟩ = some (.int .i64 x134002_1) := (blk_cell BK133.out 2).trans rfl; have hcz160_3 : w159.cell? ⟨gb133, 3, none⟩ = some (.int .i64 x134003_1) := (blk_cell BK133.out 3).trans rfl; have hfz160_0 := blk_frozen BK133.out 0; have hfz160_1 := blk_frozen BK133.out 1; have hfz160_2 := blk_frozen BK133.out 2; have hfz160_3 := blk_frozen BK133.out 3))
            go_ret
            exact ⟨by first | rfl | (simp [errW_none, errW_some] <;> rfl) | (simp [*, errW_none, errW_some] <;> rfl), by repeat (first | (with_reducible first | exact HB.out | apply below_alloc | apply pw_below_drewN | apply below_drew1 | refine below_set ?_ GE133.out) | exact HB.out)⟩
          · replace c158 := Bool.eq_false_iff.mpr c158
            subst c158
            have H1 : (none) = some r := by rw [if_neg (show ¬ (false = true) by decide)] at H; exact H
            clear H
            have H := H1
            clear H1
            exact absurd H (by simp)
  · rw [if_neg c5] at H
    exact absurd H (by simp)

def ok39 (x : S39) : Prop := ((Lit.int .i64 x.f0).wf = true) ∧ ((Lit.int .i64 x.f1).wf = true)
/-- THE ONE PURE STATEMENT of tarrylaw11_PayKeeps. -/
def tarrylaw11_PayKeeps.Pure : Prop := ∀ (a0 : Int) (a1 : Int) (l2 : List (S39)), (Lit.int .i64 a0).wf = true → (Lit.int .i64 a1).wf = true → (l2.length ≤ 9223372036854775807 ∧ ∀ x ∈ l2, ok39 x) → ∃ k, tarrylaw11_PayKeeps.f k a0 a1 l2 = some true

end Go.Proofs.Ytagclnkmndgeoaa.PPayKeeps
