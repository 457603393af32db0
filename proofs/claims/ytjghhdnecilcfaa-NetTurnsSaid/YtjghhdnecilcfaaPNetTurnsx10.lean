/- Written by a program of this repo over the kit's print program: what the program's functions do, each as a Lean function, shown of the loaded code; or a statement's row over that; no condition of its own. -/
import Derived.Test.YtjghhdnecilcfaaPNetTurnsx0
import Derived.Test.YtjghhdnecilcfaaPNetTurnsx1
namespace Go.Proofs.Ytjghhdnecilcfaa.PNetTurns
open Go.RowKit Go.Proofs.YtjghhdnecilcfaaW.PrintWords Go.Proofs.YtjghhdnecilcfaaW.PrintLast Go.Proofs.YtjghhdnecilcfaaW.PrintMore
attribute [local go_sem] max2_int min2_int max_two min_two max_three min_three max_four min_four   -- for this text's walks alone
set_option linter.unusedVariables false
set_option linter.unusedSimpArgs false

attribute [local go_sem high] eqA26
/-! ### tarrylaw15_like: function 15 -/
mutual
def tarrylaw15_like.j0 : Nat → Bool → List (S26) → Int → List (S26) → Int → Option (Bool)
  | 0, _, _, _, _, _ => none
  | k + 1, x19, x207000, x207001, x208000, x208001 => if x19 = true then (some false) else (tarrylaw15_like.l0 k (x207000.length : Int) 0 x207000 x207001 x208000 x208001)
def tarrylaw15_like.l0 : Nat → Int → Int → List (S26) → Int → List (S26) → Int → Option (Bool)
  | 0, _, _, _, _, _, _ => none
  | k + 1, x22, x23, x207000, x207001, x208000, x208001 => if x23 < x22 then (if 0 ≤ x23 then (if x23 < (x207000.length : Int) then (if x23 < (x208000.length : Int) then (if (!(((rd_T26 x207000 x23).f0) == ((rd_T26 x208000 x23).f0)) || (!(((rd_T26 x207000 x23).f1) == ((rd_T26 x208000 x23).f1)) || (!(((rd_T26 x207000 x23).f2) == ((rd_T26 x208000 x23).f2)) || (!(((rd_T26 x207000 x23).f3) == ((rd_T26 x208000 x23).f3)) || (!(((rd_T26 x207000 x23).f4) == ((rd_T26 x208000 x23).f4)) || (!(((rd_T26 x207000 x23).f5) == ((rd_T26 x208000 x23).f5)))))))) = true then (some false) else (tarrylaw15_like.l0 k x22 (wrap64 (x23 + 1)) x207000 x207001 x208000 x208001)) else (none)) else (none)) else (none)) else (some true)
end
def tarrylaw15_like.f (k : Nat) (l0_0 : List (S26)) (a0_1 : Int) (l1_0 : List (S26)) (a1_1 : Int) : Option (Bool) := if (l0_0.length : Int) = (l1_0.length : Int) then (tarrylaw15_like.j0 k (a0_1 != a1_1) l0_0 a0_1 l1_0 a1_1) else (tarrylaw15_like.j0 k true l0_0 a0_1 l1_0 a1_1)
theorem tarrylaw15_like.mono_l : ∀ k, (∀ y0 y1 y2 y3 y4, LeO (tarrylaw15_like.j0 k y0 y1 y2 y3 y4) (tarrylaw15_like.j0 (k + 1) y0 y1 y2 y3 y4)) ∧ (∀ y0 y1 y2 y3 y4 y5, LeO (tarrylaw15_like.l0 k y0 y1 y2 y3 y4 y5) (tarrylaw15_like.l0 (k + 1) y0 y1 y2 y3 y4 y5))
  | 0 => ⟨fun _ _ _ _ _ r h => by simp [tarrylaw15_like.j0] at h, fun _ _ _ _ _ _ r h => by simp [tarrylaw15_like.l0] at h⟩
  | k + 1 => by
    obtain ⟨ih0, ih1⟩ := tarrylaw15_like.mono_l k
    refine ⟨?_, ?_⟩
    · intro y0 y1 y2 y3 y4
      unfold tarrylaw15_like.j0
      repeat' first
      | (with_reducible exact ih0 _ _ _ _ _)
      | (with_reducible exact ih1 _ _ _ _ _ _)
      | (with_reducible exact LeO.refl _)
      | (with_reducible exact LeO.none _)
      | (with_reducible refine LeO.ite ?_ ?_)
      | (with_reducible refine LeO.bind ?_ (fun _ => ?_))
      | exact ih0 _ _ _ _ _
      | exact ih1 _ _ _ _ _ _
      | exact LeO.none _
      | refine LeO.ite ?_ ?_
      | refine LeO.bind ?_ (fun _ => ?_)
    · intro y0 y1 y2 y3 y4 y5
      unfold tarrylaw15_like.l0
      repeat' first
      | (with_reducible exact ih0 _ _ _ _ _)
      | (with_reducible exact ih1 _ _ _ _ _ _)
      | (with_reducible exact LeO.refl _)
      | (with_reducible exact LeO.none _)
      | (with_reducible refine LeO.ite ?_ ?_)
      | (with_reducible refine LeO.bind ?_ (fun _ => ?_))
      | exact ih0 _ _ _ _ _
      | exact ih1 _ _ _ _ _ _
      | exact LeO.none _
      | refine LeO.ite ?_ ?_
      | refine LeO.bind ?_ (fun _ => ?_)
theorem tarrylaw15_like.mono : ∀ a0 a1 a2 a3 k, LeO (tarrylaw15_like.f k a0 a1 a2 a3) (tarrylaw15_like.f (k + 1) a0 a1 a2 a3) := by
  intro a0 a1 a2 a3 k
  obtain ⟨ih0, ih1⟩ := tarrylaw15_like.mono_l k
  unfold tarrylaw15_like.f
  repeat' first
      | (with_reducible exact ih0 _ _ _ _ _)
      | (with_reducible exact ih1 _ _ _ _ _ _)
      | (with_reducible exact LeO.refl _)
      | (with_reducible exact LeO.none _)
      | (with_reducible refine LeO.ite ?_ ?_)
      | (with_reducible refine LeO.bind ?_ (fun _ => ?_))
      | exact ih0 _ _ _ _ _
      | exact ih1 _ _ _ _ _ _
      | exact LeO.none _
      | refine LeO.ite ?_ ?_
      | refine LeO.bind ?_ (fun _ => ?_)
set_option maxHeartbeats 8000000 in
set_option maxRecDepth 100000 in
theorem tarrylaw15_like.calls (k : Nat) (A0_0 : Option Addr) (c0_0 : Nat) (l0_0 : List (S26)) (a0_1 : Int) (A1_0 : Option Addr) (c1_0 : Nat) (l1_0 : List (S26)) (a1_1 : Int) (r : Bool) (w : World) (hr0_0 : Kd.C k26 w A0_0 l0_0.length l0_0) (hc0_0 : l0_0.length ≤ c0_0) (hr1_0 : Kd.C k26 w A1_0 l1_0.length l1_0) (hc1_0 : l1_0.length ≤ c1_0) (h : tarrylaw15_like.f k l0_0 a0_1 l1_0 a1_1 = some r) :
    Calls Try.prog 15 #[.agg #[.slice A0_0 l0_0.length c0_0, .int .i64 a0_1], .agg #[.slice A1_0 l1_0.length c1_0, .int .i64 a1_1]] w fun e w' => e = .returned (.bool r) ∧ Below w.heap.size w w' := by
  have hu24 := Try.underlying24
  have hu26 := Try.underlying26
  have HR0_0 := Aside0.mk hr0_0
  have HC0_0 := Aside0.mk hc0_0
  clear hr0_0 hc0_0
  have HR1_0 := Aside0.mk hr1_0
  have HC1_0 := Aside0.mk hc1_0
  clear hr1_0 hc1_0
  have HB := Aside0.mk (Below.refl w.heap.size w)
  have H : (if (l0_0.length : Int) = (l1_0.length : Int) then (tarrylaw15_like.j0 k (a0_1 != a1_1) l0_0 a0_1 l1_0 a1_1) else (tarrylaw15_like.j0 k true l0_0 a0_1 l1_0 a1_1)) = some r := h
  clear h
  have HC3 := Aside0.mk H
  clear H
  go_enter Try.func15, Try.ntmps15
  go_upto_region 1 with (first | ((with_reducible refine gate_dst (N := 2) rfl ?_); refine box_event ?hg (N := 2) ?hd (cs := #[.slice A0_0 l0_0.length c0_0, .int .i64 a0_1]) (t := 24) ?hr ?_; (case hd => rfl); (case hg => rfl); (case hr => first | (go_simp; done) | (go_simp; rfl)); intro gb206 hg w4 hbox hb; have n0_ := hs_ HB hb; have n1_ := Aside0.mk (hbox); have n2_ := hz_ HB hg; have n3_ := hz_ HB hg; clear HB; have HB := n0_; have BK206 := n1_; have GW206 := n2_; have GE206 := n3_; clear n0_ n1_ n2_ n3_; clear hb hbox hg) | ((with_reducible refine gate_dst (N := 3) rfl ?_); refine box_event ?hg (N := 3) ?hd (cs := #[.slice A1_0 l1_0.length c1_0, .int .i64 a1_1]) (t := 24) ?hr ?_; (case hd => rfl); (case hg => rfl); (case hr => first | (go_simp; done) | (go_simp; rfl)); intro gb207 hg w5 hbox hb; have n0_ := kb_ BK206 hb; have n1_ := hs_ HB hb; have n2_ := Aside0.mk (hbox); have n3_ := hz_ HB hg; have n4_ := hz_ HB hg; have n5_ := kn_ BK206 hg; have n6_ := kr_ BK206 hg; clear BK206; clear HB; have BK206 := n0_; have HB := n1_; have BK207 := n2_; have GW207 := n3_; have GE207 := n4_; have NB206_207 := n5_; have NB207_206 := n6_; clear n0_ n1_ n2_ n3_ n4_ n5_ n6_; clear hb hbox hg))
  repeat (go_quiet (first | ((with_reducible refine gate_dst (N := 2) rfl ?_); refine box_event ?hg (N := 2) ?hd (cs := #[.slice A0_0 l0_0.length c0_0, .int .i64 a0_1]) (t := 24) ?hr ?_; (case hd => rfl); (case hg => rfl); (case hr => first | (go_simp; done) | (go_simp; rfl)); intro gb206 hg w4 hbox hb; have n0_ := hs_ HB hb; have n1_ := Aside0.mk (hbox); have n2_ := hz_ HB hg; have n3_ := hz_ HB hg; clear HB; have HB := n0_; have BK206 := n1_; have GW206 := n2_; have GE206 := n3_; clear n0_ n1_ n2_ n3_; clear hb hbox hg) | ((with_reducible refine gate_dst (N := 3) rfl ?_); refine box_event ?hg (N := 3) ?hd (cs := #[.slice A1_0 l1_0.length c1_0, .int .i64 a1_1]) (t := 24) ?hr ?_; (case hd => rfl); (case hg => rfl); (case hr => first | (go_simp; done) | (go_simp; rfl)); intro gb207 hg w5 hbox hb; have n0_ := kb_ BK206 hb; have n1_ := hs_ HB hb; have n2_ := Aside0.mk (hbox); have n3_ := hz_ HB hg; have n4_ := hz_ HB hg; have n5_ := kn_ BK206 hg; have n6_ := kr_ BK206 hg; clear BK206; clear HB; have BK206 := n0_; have HB := n1_; have BK207 := n2_; have GW207 := n3_; have GE207 := n4_; have NB206_207 := n5_; have NB207_206 := n6_; clear n0_ n1_ n2_ n3_ n4_ n5_ n6_; clear hb hbox hg)); go_upto_region 1 with (first | ((with_reducible refine gate_dst (N := 2) rfl ?_); refine box_event ?hg (N := 2) ?hd (cs := #[.slice A0_0 l0_0.length c0_0, .int .i64 a0_1]) (t := 24) ?hr ?_; (case hd => rfl); (case hg => rfl); (case hr => first | (go_simp; done) | (go_simp; rfl)); intro gb206 hg w4 hbox hb; have n0_ := hs_ HB hb; have n1_ := Aside0.mk (hbox); have n2_ := hz_ HB hg; have n3_ := hz_ HB hg; clear HB; have HB := n0_; have BK206 := n1_; have GW206 := n2_; have GE206 := n3_; clear n0_ n1_ n2_ n3_; clear hb hbox hg) | ((with_reducible refine gate_dst (N := 3) rfl ?_); refine box_event ?hg (N := 3) ?hd (cs := #[.slice A1_0 l1_0.length c1_0, .int .i64 a1_1]) (t := 24) ?hr ?_; (case hd => rfl); (case hg => rfl); (case hr => first | (go_simp; done) | (go_simp; rfl)); intro gb207 hg w5 hbox hb; have n0_ := kb_ BK206 hb; have n1_ := hs_ HB hb; have n2_ := Aside0.mk (hbox); have n3_ := hz_ HB hg; have n4_ := hz_ HB hg; have n5_ := kn_ BK206 hg; have n6_ := kr_ BK206 hg; clear BK206; clear HB; have BK206 := n0_; have HB := n1_; have BK207 := n2_; have GW207 := n3_; have GE207 := n4_; have NB206_207 := n5_; have NB207_206 := n6_; clear n0_ n1_ n2_ n3_ n4_ n5_ n6_; clear hb hbox hg)))
  (try simp only [Act.put, List.setIfInBounds_toArray, List.set_cons_zero, List.set_cons_succ])
  go_cut [19] (fun v19 wc => ∃ (kq : Nat) (x19_2 : Bool), v19 = .bool x19_2 ∧ Aside0 (tarrylaw15_like.j0 kq x19_2 l0_0 a0_1 l1_0 a1_1 = some r) ∧ Aside0 (kq ≤ k) ∧ Aside0 (wc.heap[gb206]? = some (.cells #[(.slice A0_0 l0_0.length c0_0), .int .i64 a0_1] 24 (0, 0))) ∧ Aside0 (wc.heap[gb207]? = some (.cells #[(.slice A1_0 l1_0.length c1_0), .int .i64 a1_1] 24 (0, 0))) ∧ Aside0 (Below w.heap.size w wc))
  case first =>
    have H := HC3.out
    clear HC3
    by_cases c6 : (l0_0.length : Int) = (l1_0.length : Int)
    · rw [if_pos c6] at H
      have c6b0 : ((l0_0.length : Int) == (l1_0.length : Int)) = true := beq_iff_eq.mpr c6
      have c6b1 : ((l0_0.length : Int) != (l1_0.length : Int)) = false := bne_eq_false_iff_eq.mpr c6
      have c6b2 : (l0_0.length == l1_0.length) = true := by first | simpa using c6 | (simp at c6 ⊢; omega)
      clear c6
      (first | rw [c6b0] | (simp only [i64_w, i32_w]; rw [c6b0]) | skip)
      have H' := Aside0.mk H
      clear H
      have hnb7 := NB206_207.out
      have hnc7 := NB207_206.out
      have hcz8_0 : w5.cell? ⟨gb206, 0, none⟩ = some (.slice A0_0 l0_0.length c0_0) := (blk_cell BK206.out 0).trans rfl
      have hcz8_1 : w5.cell? ⟨gb206, 1, none⟩ = some (.int .i64 a0_1) := (blk_cell BK206.out 1).trans rfl
      have hfz8_0 := blk_frozen BK206.out 0
      have hfz8_1 := blk_frozen BK206.out 1
      have hcz9_0 : w5.cell? ⟨gb207, 0, none⟩ = some (.slice A1_0 l1_0.length c1_0) := (blk_cell BK207.out 0).trans rfl
      have hcz9_1 : w5.cell? ⟨gb207, 1, none⟩ = some (.int .i64 a1_1) := (blk_cell BK207.out 1).trans rfl
      have hfz9_0 := blk_frozen BK207.out 0
      have hfz9_1 := blk_frozen BK207.out 1
      go_wp2
      repeat (go_quiet (fail); try go_wp2)
      go_meet
      case rel => exact ⟨_, ((a0_1 != a1_1)), (by first | rfl | (simp; done) | (simp [*]; done)), H', ⟨by first | omega | exact Nat.le_refl _⟩, ⟨by exact kk_ BK206⟩, ⟨by exact kk_ BK207⟩, ⟨by exact hh_ HB⟩⟩
    · rw [if_neg c6] at H
      have c6b0 : ((l0_0.length : Int) == (l1_0.length : Int)) = false := beq_eq_false_iff_ne.mpr c6
      have c6b1 : ((l0_0.length : Int) != (l1_0.length : Int)) = true := bne_iff_ne.mpr c6
      have c6b2 : (l0_0.length == l1_0.length) = false := by first | simpa using c6 | (simp at c6 ⊢; omega)
      (first | rw [c6b0] | (simp only [i64_w, i32_w]; rw [c6b0]) | skip)
      have H' := Aside0.mk H
      clear H
      have hnb10 := NB206_207.out
      have hnc10 := NB207_206.out
      have hcz11_0 : w5.cell? ⟨gb206, 0, none⟩ = some (.slice A0_0 l0_0.length c0_0) := (blk_cell BK206.out 0).trans rfl
      have hcz11_1 : w5.cell? ⟨gb206, 1, none⟩ = some (.int .i64 a0_1) := (blk_cell BK206.out 1).trans rfl
      have hfz11_0 := blk_frozen BK206.out 0
      have hfz11_1 := blk_frozen BK206.out 1
      have hcz12_0 : w5.cell? ⟨gb207, 0, none⟩ = some (.slice A1_0 l1_0.length c1_0) := (blk_cell BK207.out 0).trans rfl
      have hcz12_1 : w5.cell? ⟨gb207, 1, none⟩ = some (.int .i64 a1_1) := (blk_cell BK207.out 1).trans rfl
      have hfz12_0 := blk_frozen BK207.out 0
      have hfz12_1 := blk_frozen BK207.out 1
      go_wp2
      repeat (go_quiet (fail); try go_wp2)
      go_meet
      case rel => exact ⟨_, (true), (by first | rfl | (simp; done) | (simp [*]; done)), H', ⟨by first | omega | exact Nat.le_refl _⟩, ⟨by exact kk_ BK206⟩, ⟨by exact kk_ BK207⟩, ⟨by exact hh_ HB⟩⟩
  case rest =>
    clear HC3
    try clear c1
    try clear p2
    try clear c6
    try clear c6b0
    try clear c6b1
    try clear c6b2
    try clear c7
    try clear c10
    try clear hcz11_0
    try clear hcz11_1
    try clear hcz12_0
    try clear hcz12_1
    try clear hcz8_0
    try clear hcz8_1
    try clear hcz9_0
    try clear hcz9_1
    try clear hfz11_0
    try clear hfz11_1
    try clear hfz12_0
    try clear hfz12_1
    try clear hfz8_0
    try clear hfz8_1
    try clear hfz9_0
    try clear hfz9_1
    obtain ⟨kq, x19_2, rfl, HA, HJ2, BK206, BK207, HB⟩ := hcut
    cases kq with
    | zero => exact absurd HA.out (by simp [tarrylaw15_like.j0])
    | succ kj2 =>
      have H := HA.out
      clear HA
      simp only [tarrylaw15_like.j0] at H
      by_cases c13 : x19_2 = true
      · subst c13
        have H1 : (some false) = some r := by rw [if_pos rfl] at H; exact H
        clear H
        have H := H1
        clear H1
        obtain rfl := Option.some.inj H
        go_wp2
        repeat (go_quiet (fail); try go_wp2)
        go_ret
        exact ⟨by first | rfl | (simp [errW_none, errW_some] <;> rfl) | (simp [*, errW_none, errW_some] <;> rfl), by repeat (first | (with_reducible first | exact HB.out | apply below_alloc | apply pw_below_drewN | apply below_drew1 | refine below_set ?_ GE206.out | refine below_set ?_ GE207.out) | exact HB.out)⟩
      · replace c13 := Bool.eq_false_iff.mpr c13
        subst c13
        have H1 : (tarrylaw15_like.l0 kj2 (l0_0.length : Int) 0 l0_0 a0_1 l1_0 a1_1) = some r := by rw [if_neg (show ¬ (false = true) by decide)] at H; exact H
        clear H
        have H := H1
        clear H1
        have H' := Aside0.mk H
        clear H
        have hnb14 := NB206_207.out
        have hnc14 := NB207_206.out
        have hcz15_0 : wc.cell? ⟨gb206, 0, none⟩ = some (.slice A0_0 l0_0.length c0_0) := (blk_cell BK206.out 0).trans rfl
        have hcz15_1 : wc.cell? ⟨gb206, 1, none⟩ = some (.int .i64 a0_1) := (blk_cell BK206.out 1).trans rfl
        have hfz15_0 := blk_frozen BK206.out 0
        have hfz15_1 := blk_frozen BK206.out 1
        go_wp2
        repeat (go_quiet (fail); try go_wp2)
        go_loopg [23] kj2 (fun kq v23 w' => ∃ (x23_2 : Int), v23 = .int .i64 x23_2 ∧ Aside0 (tarrylaw15_like.l0 kq (l0_0.length : Int) x23_2 l0_0 a0_1 l1_0 a1_1 = some r) ∧ Aside0 (kq ≤ kj2) ∧ Aside0 (w'.heap[gb206]? = some (.cells #[(.slice A0_0 l0_0.length c0_0), .int .i64 a0_1] 24 (0, 0))) ∧ Aside0 (w'.heap[gb207]? = some (.cells #[(.slice A1_0 l1_0.length c1_0), .int .i64 a1_1] 24 (0, 0))) ∧ Aside0 (Below w.heap.size w w'))
        case atStart => exact ⟨(0), (by first | rfl | (simp; done) | (simp [*]; done)), H', ⟨Nat.le_refl _⟩, ⟨by exact kk_ BK206⟩, ⟨by exact kk_ BK207⟩, ⟨by exact hh_ HB⟩⟩
        case round =>
          clear H'
          try clear c1
          try clear p2
          try clear c6
          try clear c6b0
          try clear c6b1
          try clear c6b2
          try clear c7
          try clear c10
          try clear c13
          try clear c14
          try clear c15
          try clear hcz11_0
          try clear hcz11_1
          try clear hcz12_0
          try clear hcz12_1
          try clear hcz15_0
          try clear hcz15_1
          try clear hcz8_0
          try clear hcz8_1
          try clear hcz9_0
          try clear hcz9_1
          try clear hfz11_0
          try clear hfz11_1
          try clear hfz12_0
          try clear hfz12_1
          try clear hfz15_0
          try clear hfz15_1
          try clear hfz8_0
          try clear hfz8_1
          try clear hfz9_0
          try clear hfz9_1
          try clear p2
          obtain ⟨x23_2, rfl, HA, HK2, BK206, BK207, HB⟩ := hrel
          cases gk with
          | zero => exact absurd HA.out (by simp [tarrylaw15_like.l0])
          | succ k2 =>
            have H := HA.out
            clear HA
            simp only [tarrylaw15_like.l0] at H
            by_cases c16 : x23_2 < (l0_0.length : Int)
            · rw [if_pos c16] at H
              have c16b0 : decide (x23_2 < (l0_0.length : Int)) = true := decide_eq_true c16
              clear c16
              by_cases c17 : 0 ≤ x23_2
              · rw [if_pos c17] at H
                have c17b0 : decide (0 ≤ x23_2) = true := decide_eq_true c17
                clear c17
                by_cases c18 : x23_2 < (l0_0.length : Int)
                · rw [if_pos c18] at H
                  have c18b0 : decide (x23_2 < (l0_0.length : Int)) = true := decide_eq_true c18
                  clear c18
                  by_cases c19 : x23_2 < (l1_0.length : Int)
                  · rw [if_pos c19] at H
                    have c19b0 : decide (x23_2 < (l1_0.length : Int)) = true := decide_eq_true c19
                    clear c19
                    by_cases c20 : (!(((rd_T26 l0_0 x23_2).f0) == ((rd_T26 l1_0 x23_2).f0)) || (!(((rd_T26 l0_0 x23_2).f1) == ((rd_T26 l1_0 x23_2).f1)) || (!(((rd_T26 l0_0 x23_2).f2) == ((rd_T26 l1_0 x23_2).f2)) || (!(((rd_T26 l0_0 x23_2).f3) == ((rd_T26 l1_0 x23_2).f3)) || (!(((rd_T26 l0_0 x23_2).f4) == ((rd_T26 l1_0 x23_2).f4)) || (!(((rd_T26 l0_0 x23_2).f5) == ((rd_T26 l1_0 x23_2).f5)))))))) = true
                    · rw [if_pos c20] at H
                      have c20b0 : (!(((rd_T26 l0_0 x23_2).f0) == ((rd_T26 l1_0 x23_2).f0)) || (!(((rd_T26 l0_0 x23_2).f1) == ((rd_T26 l1_0 x23_2).f1)) || (!(((rd_T26 l0_0 x23_2).f2) == ((rd_T26 l1_0 x23_2).f2)) || (!(((rd_T26 l0_0 x23_2).f3) == ((rd_T26 l1_0 x23_2).f3)) || (!(((rd_T26 l0_0 x23_2).f4) == ((rd_T26 l1_0 x23_2).f4)) || (!(((rd_T26 l0_0 x23_2).f5) == ((rd_T26 l1_0 x23_2).f5)))))))) = true := c20
                      clear c20
                      obtain rfl := Option.some.inj H
                      have hnb21 := NB206_207.out
                      have hnc21 := NB207_206.out
                      have hcz22_0 : wr.cell? ⟨gb206, 0, none⟩ = some (.slice A0_0 l0_0.length c0_0) := (blk_cell BK206.out 0).trans rfl
                      have hcz22_1 : wr.cell? ⟨gb206, 1, none⟩ = some (.int .i64 a0_1) := (blk_cell BK206.out 1).trans rfl
                      have hfz22_0 := blk_frozen BK206.out 0
                      have hfz22_1 := blk_frozen BK206.out 1
                      have p208 : 0 ≤ (x23_2 : Int) := of_decide_eq_true (by first | (with_reducible assumption) | assumption)
                      have q208 : x23_2 < (l0_0.length : Int) := of_decide_eq_true (by first | (with_reducible assumption) | assumption)
                      obtain ⟨ad208, e208, hx208_0, hx208_1, hx208_2, hx208_3, hx208_4, hx208_5⟩ := at_T26 HR0_0.out x23_2 p208 q208
                      cases e208
                      replace hx208_0 := (HB.out.cell (World.block_lt_of_cell? w _ hx208_0)).trans hx208_0
                      replace hx208_1 := (HB.out.cell (World.block_lt_of_cell? w _ hx208_1)).trans hx208_1
                      replace hx208_2 := (HB.out.cell (World.block_lt_of_cell? w _ hx208_2)).trans hx208_2
                      replace hx208_3 := (HB.out.cell (World.block_lt_of_cell? w _ hx208_3)).trans hx208_3
                      replace hx208_4 := (HB.out.cell (World.block_lt_of_cell? w _ hx208_4)).trans hx208_4
                      replace hx208_5 := (HB.out.cell (World.block_lt_of_cell? w _ hx208_5)).trans hx208_5
                      replace p208 := eq_true p208
                      replace q208 := eq_true q208
                      have hcz23_0 : wr.cell? ⟨gb207, 0, none⟩ = some (.slice A1_0 l1_0.length c1_0) := (blk_cell BK207.out 0).trans rfl
                      have hcz23_1 : wr.cell? ⟨gb207, 1, none⟩ = some (.int .i64 a1_1) := (blk_cell BK207.out 1).trans rfl
                      have hfz23_0 := blk_frozen BK207.out 0
                      have hfz23_1 := blk_frozen BK207.out 1
                      have p209 : 0 ≤ (x23_2 : Int) := of_decide_eq_true (by first | (with_reducible assumption) | assumption)
                      have q209 : x23_2 < (l1_0.length : Int) := of_decide_eq_true (by first | (with_reducible assumption) | assumption)
                      obtain ⟨ad209, e209, hx209_0, hx209_1, hx209_2, hx209_3, hx209_4, hx209_5⟩ := at_T26 HR1_0.out x23_2 p209 q209
                      cases e209
                      replace hx209_0 := (HB.out.cell (World.block_lt_of_cell? w _ hx209_0)).trans hx209_0
                      replace hx209_1 := (HB.out.cell (World.block_lt_of_cell? w _ hx209_1)).trans hx209_1
                      replace hx209_2 := (HB.out.cell (World.block_lt_of_cell? w _ hx209_2)).trans hx209_2
                      replace hx209_3 := (HB.out.cell (World.block_lt_of_cell? w _ hx209_3)).trans hx209_3
                      replace hx209_4 := (HB.out.cell (World.block_lt_of_cell? w _ hx209_4)).trans hx209_4
                      replace hx209_5 := (HB.out.cell (World.block_lt_of_cell? w _ hx209_5)).trans hx209_5
                      replace p209 := eq_true p209
                      replace q209 := eq_true q209
                      go_wp2
                      repeat (go_quiet (fail); try go_wp2)
                      go_ret
                      exact ⟨by first | rfl | (simp [errW_none, errW_some] <;> rfl) | (simp [*, errW_none, errW_some] <;> rfl), by repeat (first | (with_reducible first | exact HB.out | apply below_alloc | apply pw_below_drewN | apply below_drew1 | refine below_set ?_ GE206.out | refine below_set ?_ GE207.out) | exact HB.out)⟩
                    · rw [if_neg c20] at H
                      have c20b0 : (!(((rd_T26 l0_0 x23_2).f0) == ((rd_T26 l1_0 x23_2).f0)) || (!(((rd_T26 l0_0 x23_2).f1) == ((rd_T26 l1_0 x23_2).f1)) || (!(((rd_T26 l0_0 x23_2).f2) == ((rd_T26 l1_0 x23_2).f2)) || (!(((rd_T26 l0_0 x23_2).f3) == ((rd_T26 l1_0 x23_2).f3)) || (!(((rd_T26 l0_0 x23_2).f4) == ((rd_T26 l1_0 x23_2).f4)) || (!(((rd_T26 l0_0 x23_2).f5) == ((rd_T26 l1_0 x23_2).f5)))))))) = false := by simpa using c20
                      clear c20
                      have H' := Aside0.mk H
                      clear H
                      have hnb24 := NB206_207.out
                      have hnc24 := NB207_206.out
                      have hcz25_0 : wr.cell? ⟨gb206, 0, none⟩ = some (.slice A0_0 l0_0.length c0_0) := (blk_cell BK206.out 0).trans rfl
                      have hcz25_1 : wr.cell? ⟨gb206, 1, none⟩ = some (.int .i64 a0_1) := (blk_cell BK206.out 1).trans rfl
                      have hfz25_0 := blk_frozen BK206.out 0
                      have hfz25_1 := blk_frozen BK206.out 1
                      have p208 : 0 ≤ (x23_2 : Int) := of_decide_eq_true (by first | (with_reducible assumption) | assumption)
                      have q208 : x23_2 < (l0_0.length : Int) := of_decide_eq_true (by first | (with_reducible assumption) | assumption)
                      obtain ⟨ad208, e208, hx208_0, hx208_1, hx208_2, hx208_3, hx208_4, hx208_5⟩ := at_T26 HR0_0.out x23_2 p208 q208
                      cases e208
                      replace hx208_0 := (HB.out.cell (World.block_lt_of_cell? w _ hx208_0)).trans hx208_0
                      replace hx208_1 := (HB.out.cell (World.block_lt_of_cell? w _ hx208_1)).trans hx208_1
                      replace hx208_2 := (HB.out.cell (World.block_lt_of_cell? w _ hx208_2)).trans hx208_2
                      replace hx208_3 := (HB.out.cell (World.block_lt_of_cell? w _ hx208_3)).trans hx208_3
                      replace hx208_4 := (HB.out.cell (World.block_lt_of_cell? w _ hx208_4)).trans hx208_4
                      replace hx208_5 := (HB.out.cell (World.block_lt_of_cell? w _ hx208_5)).trans hx208_5
                      replace p208 := eq_true p208
                      replace q208 := eq_true q208
                      have hcz26_0 : wr.cell? ⟨gb207, 0, none⟩ = some (.slice A1_0 l1_0.length c1_0) := (blk_cell BK207.out 0).trans rfl
                      have hcz26_1 : wr.cell? ⟨gb207, 1, none⟩ = some (.int .i64 a1_1) := (blk_cell BK207.out 1).trans rfl
                      have hfz26_0 := blk_frozen BK207.out 0
                      have hfz26_1 := blk_frozen BK207.out 1
                      have p209 : 0 ≤ (x23_2 : Int) := of_decide_eq_true (by first | (with_reducible assumption) | assumption)
                      have q209 : x23_2 < (l1_0.length : Int) := of_decide_eq_true (by first | (with_reducible assumption) | assumption)
                      obtain ⟨ad209, e209, hx209_0, hx209_1, hx209_2, hx209_3, hx209_4, hx209_5⟩ := at_T26 HR1_0.out x23_2 p209 q209
                      cases e209
                      replace hx209_0 := (HB.out.cell (World.block_lt_of_cell? w _ hx209_0)).trans hx209_0
                      replace hx209_1 := (HB.out.cell (World.block_lt_of_cell? w _ hx209_1)).trans hx209_1
                      replace hx209_2 := (HB.out.cell (World.block_lt_of_cell? w _ hx209_2)).trans hx209_2
                      replace hx209_3 := (HB.out.cell (World.block_lt_of_cell? w _ hx209_3)).trans hx209_3
                      replace hx209_4 := (HB.out.cell (World.block_lt_of_cell? w _ hx209_4)).trans hx209_4
                      replace hx209_5 := (HB.out.cell (World.block_lt_of_cell? w _ hx209_5)).trans hx209_5
                      replace p209 := eq_true p209
                      replace q209 := eq_true q209
                      go_wp2
                      repeat (go_quiet (fail); try go_wp2)
                      go_roundg k2
                      case measure => have := HJ2.out; have := HK2.out; omega
                      case rel => exact ⟨(wrap64 (x23_2 + 1)), (by first | rfl | (simp; done) | (simp [*]; done)), H', ⟨by have := HJ2.out; have := HK2.out; omega⟩, ⟨by exact kk_ BK206⟩, ⟨by exact kk_ BK207⟩, ⟨by exact hh_ HB⟩⟩
                  · rw [if_neg c19] at H
                    exact absurd H (by simp)
                · rw [if_neg c18] at H
                  exact absurd H (by simp)
              · rw [if_neg c17] at H
                exact absurd H (by simp)
            · rw [if_neg c16] at H
              have c16b0 : decide (x23_2 < (l0_0.length : Int)) = false := decide_eq_false c16
              clear c16
              obtain rfl := Option.some.inj H
              go_wp2
              repeat (go_quiet (fail); try go_wp2)
              go_ret
              exact ⟨by first | rfl | (simp [errW_none, errW_some] <;> rfl) | (simp [*, errW_none, errW_some] <;> rfl), by repeat (first | (with_reducible first | exact HB.out | apply below_alloc | apply pw_below_drewN | apply below_drew1 | refine below_set ?_ GE206.out | refine below_set ?_ GE207.out) | exact HB.out)⟩

end Go.Proofs.Ytjghhdnecilcfaa.PNetTurns
