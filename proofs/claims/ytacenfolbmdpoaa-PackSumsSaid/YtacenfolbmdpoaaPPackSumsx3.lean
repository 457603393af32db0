-- PRINTED BY print.sh 35421559b90ae4d0a3588c463048766b98c2df88dd9212a6774a882060cdf62d: not written by this session
import Derived.Test.YtacenfolbmdpoaaPPackSumsx0
import Derived.Test.YtacenfolbmdpoaaPPackSumsx1
import Derived.Test.YtacenfolbmdpoaaPPackSumsx2
namespace Go.Proofs.Ytacenfolbmdpoaa.PPackSums
open Go.RowKit Go.Proofs.YtacenfolbmdpoaaW.PrintWords Go.Proofs.YtacenfolbmdpoaaW.PrintLast Go.Proofs.YtacenfolbmdpoaaW.PrintMore
attribute [local go_sem] max2_int min2_int max_two min_two max_three min_three max_four min_four   -- for this text's walks alone
set_option linter.unusedVariables false
set_option linter.unusedSimpArgs false

/-! ### tarrylaw01_PackSums: function 4 -/
mutual
def tarrylaw01_PackSums.j0 : Nat → Int → Int → Int → Int → Int → Int → Bool → Option (Bool)
  | 0, _, _, _, _, _, _, _ => none
  | k + 1, x0, x1, x5, x6, x7, x8, x30 => if x30 = true then ((tarrylaw01_alive.f k).bind fun t130 => (if t130 = true then (if x6 = 1 then (if x8 = 1 then (if x5 = 0 then (some (x7 == 0)) else (some false)) else (some false)) else (some false)) else (some false))) else ((tarryref01_Times.f k x0 x1).bind fun bt131 => (if bt131.2 = true then (if x8 = 0 then (if x7 = bt131.1 then ((tarrylaw01_alive.f k).bind fun t133 => (tarrylaw01_PackSums.j1 k x0 x1 x5 x6 (!t133))) else (tarrylaw01_PackSums.j1 k x0 x1 x5 x6 true)) else (tarrylaw01_PackSums.j1 k x0 x1 x5 x6 true)) else (if x8 = 2 then (if x7 = 0 then ((tarrylaw01_alive.f k).bind fun t134 => (tarrylaw01_PackSums.j1 k x0 x1 x5 x6 (!t134))) else (tarrylaw01_PackSums.j1 k x0 x1 x5 x6 true)) else (tarrylaw01_PackSums.j1 k x0 x1 x5 x6 true))))
def tarrylaw01_PackSums.j1 : Nat → Int → Int → Int → Int → Bool → Option (Bool)
  | 0, _, _, _, _, _ => none
  | k + 1, x0, x1, x5, x6, x79 => if x79 = true then (some false) else ((tarryref01_May.f (wrap64 (x0 + x1))).bind fun t135 => (if t135 = true then (if x6 = 0 then (some (x5 == (wrap64 (x0 + x1)))) else (some false)) else (if x6 = 2 then (some (x5 == 0)) else (some false))))
end
def tarrylaw01_PackSums.f (k : Nat) (a0 : Int) (a1 : Int) : Option (Bool) := (pack_Add.f k a0 a1).bind fun bt124 => ((pack_Times.f k a0 a1).bind fun bt126 => ((tarryref01_May.f a0).bind fun t128 => (if t128 = true then ((tarryref01_May.f a1).bind fun t129 => (tarrylaw01_PackSums.j0 k a0 a1 bt124.1 bt124.2 bt126.1 bt126.2 (!t129))) else (tarrylaw01_PackSums.j0 k a0 a1 bt124.1 bt124.2 bt126.1 bt126.2 true))))
theorem tarrylaw01_PackSums.mono_l : ∀ k, (∀ y0 y1 y2 y3 y4 y5 y6, LeO (tarrylaw01_PackSums.j0 k y0 y1 y2 y3 y4 y5 y6) (tarrylaw01_PackSums.j0 (k + 1) y0 y1 y2 y3 y4 y5 y6)) ∧ (∀ y0 y1 y2 y3 y4, LeO (tarrylaw01_PackSums.j1 k y0 y1 y2 y3 y4) (tarrylaw01_PackSums.j1 (k + 1) y0 y1 y2 y3 y4))
  | 0 => ⟨fun _ _ _ _ _ _ _ r h => by simp [tarrylaw01_PackSums.j0] at h, fun _ _ _ _ _ r h => by simp [tarrylaw01_PackSums.j1] at h⟩
  | k + 1 => by
    obtain ⟨ih0, ih1⟩ := tarrylaw01_PackSums.mono_l k
    refine ⟨?_, ?_⟩
    · intro y0 y1 y2 y3 y4 y5 y6
      unfold tarrylaw01_PackSums.j0
      repeat' first
      | (with_reducible exact ih0 _ _ _ _ _ _ _)
      | (with_reducible exact ih1 _ _ _ _ _)
      | (with_reducible exact pack_Add.mono _ _ _)
      | (with_reducible exact pack_Times.mono _ _ _)
      | (with_reducible exact tarrylaw01_alive.mono _)
      | (with_reducible exact tarryref01_Times.mono _ _ _)
      | (with_reducible exact LeO.refl _)
      | (with_reducible exact LeO.none _)
      | (with_reducible refine LeO.ite ?_ ?_)
      | (with_reducible refine LeO.bind ?_ (fun _ => ?_))
      | exact ih0 _ _ _ _ _ _ _
      | exact ih1 _ _ _ _ _
      | exact pack_Add.mono _ _ _
      | exact pack_Times.mono _ _ _
      | exact tarrylaw01_alive.mono _
      | exact tarryref01_Times.mono _ _ _
      | exact LeO.none _
      | refine LeO.ite ?_ ?_
      | refine LeO.bind ?_ (fun _ => ?_)
    · intro y0 y1 y2 y3 y4
      unfold tarrylaw01_PackSums.j1
      repeat' first
      | (with_reducible exact ih0 _ _ _ _ _ _ _)
      | (with_reducible exact ih1 _ _ _ _ _)
      | (with_reducible exact pack_Add.mono _ _ _)
      | (with_reducible exact pack_Times.mono _ _ _)
      | (with_reducible exact tarrylaw01_alive.mono _)
      | (with_reducible exact tarryref01_Times.mono _ _ _)
      | (with_reducible exact LeO.refl _)
      | (with_reducible exact LeO.none _)
      | (with_reducible refine LeO.ite ?_ ?_)
      | (with_reducible refine LeO.bind ?_ (fun _ => ?_))
      | exact ih0 _ _ _ _ _ _ _
      | exact ih1 _ _ _ _ _
      | exact pack_Add.mono _ _ _
      | exact pack_Times.mono _ _ _
      | exact tarrylaw01_alive.mono _
      | exact tarryref01_Times.mono _ _ _
      | exact LeO.none _
      | refine LeO.ite ?_ ?_
      | refine LeO.bind ?_ (fun _ => ?_)
theorem tarrylaw01_PackSums.mono : ∀ a0 a1 k, LeO (tarrylaw01_PackSums.f k a0 a1) (tarrylaw01_PackSums.f (k + 1) a0 a1) := by
  intro a0 a1 k
  obtain ⟨ih0, ih1⟩ := tarrylaw01_PackSums.mono_l k
  unfold tarrylaw01_PackSums.f
  repeat' first
      | (with_reducible exact ih0 _ _ _ _ _ _ _)
      | (with_reducible exact ih1 _ _ _ _ _)
      | (with_reducible exact pack_Add.mono _ _ _)
      | (with_reducible exact pack_Times.mono _ _ _)
      | (with_reducible exact tarrylaw01_alive.mono _)
      | (with_reducible exact tarryref01_Times.mono _ _ _)
      | (with_reducible exact LeO.refl _)
      | (with_reducible exact LeO.none _)
      | (with_reducible refine LeO.ite ?_ ?_)
      | (with_reducible refine LeO.bind ?_ (fun _ => ?_))
      | exact ih0 _ _ _ _ _ _ _
      | exact ih1 _ _ _ _ _
      | exact pack_Add.mono _ _ _
      | exact pack_Times.mono _ _ _
      | exact tarrylaw01_alive.mono _
      | exact tarryref01_Times.mono _ _ _
      | exact LeO.none _
      | refine LeO.ite ?_ ?_
      | refine LeO.bind ?_ (fun _ => ?_)
set_option maxHeartbeats 8000000 in
set_option maxRecDepth 100000 in
theorem tarrylaw01_PackSums.calls (k : Nat) (a0 : Int) (a1 : Int) (r : Bool) (w : World) (h : tarrylaw01_PackSums.f k a0 a1 = some r) :
    Calls Try.prog 4 #[.int .i64 a0, .int .i64 a1] w fun e w' => e = .returned (.bool r) ∧ Below w.heap.size w w' := by
  have HB := Aside0.mk (Below.refl w.heap.size w)
  have H : ((pack_Add.f k a0 a1).bind fun bt124 => ((pack_Times.f k a0 a1).bind fun bt126 => ((tarryref01_May.f a0).bind fun t128 => (if t128 = true then ((tarryref01_May.f a1).bind fun t129 => (tarrylaw01_PackSums.j0 k a0 a1 bt124.1 bt124.2 bt126.1 bt126.2 (!t129))) else (tarrylaw01_PackSums.j0 k a0 a1 bt124.1 bt124.2 bt126.1 bt126.2 true))))) = some r := h
  clear h
  replace H := Option.bind_eq_some_iff.mp H
  obtain ⟨⟨t124, t125⟩, A30, H⟩ := H
  replace H : ((pack_Times.f k a0 a1).bind fun bt126 => ((tarryref01_May.f a0).bind fun t128 => (if t128 = true then ((tarryref01_May.f a1).bind fun t129 => (tarrylaw01_PackSums.j0 k a0 a1 t124 t125 bt126.1 bt126.2 (!t129))) else (tarrylaw01_PackSums.j0 k a0 a1 t124 t125 bt126.1 bt126.2 true)))) = some r := H
  have A3 := Aside0.mk A30
  clear A30
  replace H := Option.bind_eq_some_iff.mp H
  obtain ⟨⟨t126, t127⟩, A40, H⟩ := H
  replace H : ((tarryref01_May.f a0).bind fun t128 => (if t128 = true then ((tarryref01_May.f a1).bind fun t129 => (tarrylaw01_PackSums.j0 k a0 a1 t124 t125 t126 t127 (!t129))) else (tarrylaw01_PackSums.j0 k a0 a1 t124 t125 t126 t127 true))) = some r := H
  have A4 := Aside0.mk A40
  clear A40
  have HC5 := Aside0.mk H
  clear H
  go_enter Try.func4, Try.ntmps4
  go_upto_region 3 with (first | ((with_reducible refine gate_callee (f := 14) rfl ?_); refine goesL_ (some 14) rfl rfl Try.func14 (by kernel_rfl) rfl #[.int .i64 a0, .int .i64 a1] rfl (by (try simp only [List.map_toArray, List.map_cons, List.map_nil]); first | done | rfl | (simp only [List.length_drop, List.length_take]; rfl)) ?_; (with_reducible refine (pack_Add.calls k a0 a1 t124 t125 _ A3.out).mono ?_); rintro e w' ⟨rfl, ⟨nd, rfl⟩⟩; refine ⟨_, rfl, ?_⟩) | ((with_reducible refine gate_callee (f := 15) rfl ?_); refine goesL_ (some 20) rfl rfl Try.func15 (by kernel_rfl) rfl #[.int .i64 a0, .int .i64 a1] rfl (by (try simp only [List.map_toArray, List.map_cons, List.map_nil]); first | done | rfl | (simp only [List.length_drop, List.length_take]; rfl)) ?_; (with_reducible refine (pack_Times.calls k a0 a1 t126 t127 _ A4.out).mono ?_); rintro e w' ⟨rfl, ⟨nd, rfl⟩⟩; refine ⟨_, rfl, ?_⟩))
  (try simp only [Act.put, List.setIfInBounds_toArray, List.set_cons_zero, List.set_cons_succ])
  go_cut [30] (fun v30 wc => ∃ (kq : Nat) (x30_4 : Bool), v30 = .bool x30_4 ∧ Aside0 (tarrylaw01_PackSums.j0 kq a0 a1 t124 t125 t126 t127 x30_4 = some r) ∧ Aside0 (kq ≤ k) ∧ Aside0 (Below w.heap.size w wc))
  case first =>
    have H := HC5.out
    clear HC5
    replace H := Option.bind_eq_some_iff.mp H
    obtain ⟨t128, A60, H⟩ := H
    replace H : (if t128 = true then ((tarryref01_May.f a1).bind fun t129 => (tarrylaw01_PackSums.j0 k a0 a1 t124 t125 t126 t127 (!t129))) else (tarrylaw01_PackSums.j0 k a0 a1 t124 t125 t126 t127 true)) = some r := H
    have A6 := Aside0.mk A60
    clear A60
    by_cases c7 : t128 = true
    · subst c7
      have H1 : ((tarryref01_May.f a1).bind fun t129 => (tarrylaw01_PackSums.j0 k a0 a1 t124 t125 t126 t127 (!t129))) = some r := by rw [if_pos rfl] at H; exact H
      clear H
      have H := H1
      clear H1
      replace H := Option.bind_eq_some_iff.mp H
      obtain ⟨t129, A80, H⟩ := H
      replace H : (tarrylaw01_PackSums.j0 k a0 a1 t124 t125 t126 t127 (!t129)) = some r := H
      have A8 := Aside0.mk A80
      clear A80
      have H' := Aside0.mk H
      clear H
      go_wp2_with (first | ((with_reducible refine gate_callee (f := 12) rfl ?_); refine goesL_ (some 24) rfl rfl Try.func12 (by kernel_rfl) rfl #[.int .i64 a0] rfl (by (try simp only [List.map_toArray, List.map_cons, List.map_nil]); first | done | rfl | (simp only [List.length_drop, List.length_take]; rfl)) ?_; (with_reducible refine (tarryref01_May.calls a0 true _ A6.out).mono ?_); rintro e w' ⟨rfl, ⟨nd, rfl⟩⟩; refine ⟨_, rfl, ?_⟩) | (go_at_call 12; (with_reducible refine (tarryref01_May.calls a1 t129 _ A8.out).mono ?_); rintro e w' ⟨rfl, ⟨nd, rfl⟩⟩))
      go_meet
      case rel => exact ⟨_, (!t129), (by first | rfl | (simp; done) | (simp [*]; done)), H', ⟨by first | omega | exact Nat.le_refl _⟩, ⟨by repeat (first | (with_reducible first | exact HB.out | apply below_alloc | apply pw_below_drewN | apply below_drew1) | exact HB.out)⟩⟩
    · replace c7 := Bool.eq_false_iff.mpr c7
      subst c7
      have H1 : (tarrylaw01_PackSums.j0 k a0 a1 t124 t125 t126 t127 true) = some r := by rw [if_neg (show ¬ (false = true) by decide)] at H; exact H
      clear H
      have H := H1
      clear H1
      have H' := Aside0.mk H
      clear H
      go_wp2_with (first | ((with_reducible refine gate_callee (f := 12) rfl ?_); refine goesL_ (some 24) rfl rfl Try.func12 (by kernel_rfl) rfl #[.int .i64 a0] rfl (by (try simp only [List.map_toArray, List.map_cons, List.map_nil]); first | done | rfl | (simp only [List.length_drop, List.length_take]; rfl)) ?_; (with_reducible refine (tarryref01_May.calls a0 false _ A6.out).mono ?_); rintro e w' ⟨rfl, ⟨nd, rfl⟩⟩; refine ⟨_, rfl, ?_⟩))
      go_meet
      case rel => exact ⟨_, (true), (by first | rfl | (simp; done) | (simp [*]; done)), H', ⟨by first | omega | exact Nat.le_refl _⟩, ⟨by repeat (first | (with_reducible first | exact HB.out | apply below_alloc | apply pw_below_drewN | apply below_drew1) | exact HB.out)⟩⟩
  case rest =>
    clear HC5
    try clear c1
    try clear p2
    try clear c4
    try clear c7
    obtain ⟨kq, x30_4, rfl, HA, HJ4, HB⟩ := hcut
    cases kq with
    | zero => exact absurd HA.out (by simp [tarrylaw01_PackSums.j0])
    | succ kj4 =>
      have H := HA.out
      clear HA
      simp only [tarrylaw01_PackSums.j0] at H
      by_cases c9 : x30_4 = true
      · subst c9
        have H1 : ((tarrylaw01_alive.f kj4).bind fun t130 => (if t130 = true then (if t125 = 1 then (if t127 = 1 then (if t124 = 0 then (some (t126 == 0)) else (some false)) else (some false)) else (some false)) else (some false))) = some r := by rw [if_pos rfl] at H; exact H
        clear H
        have H := H1
        clear H1
        replace H := Option.bind_eq_some_iff.mp H
        obtain ⟨t130, A100, H⟩ := H
        replace H : (if t130 = true then (if t125 = 1 then (if t127 = 1 then (if t124 = 0 then (some (t126 == 0)) else (some false)) else (some false)) else (some false)) else (some false)) = some r := H
        have A10 := Aside0.mk A100
        clear A100
        by_cases c11 : t130 = true
        · subst c11
          have H1 : (if t125 = 1 then (if t127 = 1 then (if t124 = 0 then (some (t126 == 0)) else (some false)) else (some false)) else (some false)) = some r := by rw [if_pos rfl] at H; exact H
          clear H
          have H := H1
          clear H1
          by_cases c12 : t125 = 1
          · rw [if_pos c12] at H
            have c12b0 : (t125 == 1) = true := beq_iff_eq.mpr c12
            have c12b1 : (t125 != 1) = false := bne_eq_false_iff_eq.mpr c12
            clear c12
            by_cases c13 : t127 = 1
            · rw [if_pos c13] at H
              have c13b0 : (t127 == 1) = true := beq_iff_eq.mpr c13
              have c13b1 : (t127 != 1) = false := bne_eq_false_iff_eq.mpr c13
              clear c13
              by_cases c14 : t124 = 0
              · rw [if_pos c14] at H
                have c14b0 : (t124 == 0) = true := beq_iff_eq.mpr c14
                have c14b1 : (t124 != 0) = false := bne_eq_false_iff_eq.mpr c14
                clear c14
                obtain rfl := Option.some.inj H
                go_wp2_with (first | ((with_reducible refine gate_callee (f := 11) rfl ?_); refine goesL_ (some 31) rfl rfl Try.func11 (by kernel_rfl) rfl #[] rfl (by (try simp only [List.map_toArray, List.map_cons, List.map_nil]); first | done | rfl | (simp only [List.length_drop, List.length_take]; rfl)) ?_; (with_reducible refine (tarrylaw01_alive.calls kj4  true _ A10.out).mono ?_); rintro e w15 ⟨rfl, hb⟩; refine ⟨_, rfl, ?_⟩; have n0_ := Aside0.mk (below_step (by repeat (first | (with_reducible first | exact HB.out | apply below_alloc | apply pw_below_drewN | apply below_drew1) | exact HB.out)) hb); clear HB; have HB := n0_; clear n0_; (try clear hb); (try clear hb2); (try clear hk); (try clear hi)))
                go_ret
                exact ⟨by first | rfl | (simp [errW_none, errW_some] <;> rfl) | (simp [*, errW_none, errW_some] <;> rfl), by repeat (first | (with_reducible first | exact HB.out | apply below_alloc | apply pw_below_drewN | apply below_drew1) | exact HB.out)⟩
              · rw [if_neg c14] at H
                have c14b0 : (t124 == 0) = false := beq_eq_false_iff_ne.mpr c14
                have c14b1 : (t124 != 0) = true := bne_iff_ne.mpr c14
                obtain rfl := Option.some.inj H
                go_wp2_with (first | ((with_reducible refine gate_callee (f := 11) rfl ?_); refine goesL_ (some 31) rfl rfl Try.func11 (by kernel_rfl) rfl #[] rfl (by (try simp only [List.map_toArray, List.map_cons, List.map_nil]); first | done | rfl | (simp only [List.length_drop, List.length_take]; rfl)) ?_; (with_reducible refine (tarrylaw01_alive.calls kj4  true _ A10.out).mono ?_); rintro e w16 ⟨rfl, hb⟩; refine ⟨_, rfl, ?_⟩; have n0_ := Aside0.mk (below_step (by repeat (first | (with_reducible first | exact HB.out | apply below_alloc | apply pw_below_drewN | apply below_drew1) | exact HB.out)) hb); clear HB; have HB := n0_; clear n0_; (try clear hb); (try clear hb2); (try clear hk); (try clear hi)))
                go_ret
                exact ⟨by first | rfl | (simp [errW_none, errW_some] <;> rfl) | (simp [*, errW_none, errW_some] <;> rfl), by repeat (first | (with_reducible first | exact HB.out | apply below_alloc | apply pw_below_drewN | apply below_drew1) | exact HB.out)⟩
            · rw [if_neg c13] at H
              have c13b0 : (t127 == 1) = false := beq_eq_false_iff_ne.mpr c13
              have c13b1 : (t127 != 1) = true := bne_iff_ne.mpr c13
              obtain rfl := Option.some.inj H
              go_wp2_with (first | ((with_reducible refine gate_callee (f := 11) rfl ?_); refine goesL_ (some 31) rfl rfl Try.func11 (by kernel_rfl) rfl #[] rfl (by (try simp only [List.map_toArray, List.map_cons, List.map_nil]); first | done | rfl | (simp only [List.length_drop, List.length_take]; rfl)) ?_; (with_reducible refine (tarrylaw01_alive.calls kj4  true _ A10.out).mono ?_); rintro e w17 ⟨rfl, hb⟩; refine ⟨_, rfl, ?_⟩; have n0_ := Aside0.mk (below_step (by repeat (first | (with_reducible first | exact HB.out | apply below_alloc | apply pw_below_drewN | apply below_drew1) | exact HB.out)) hb); clear HB; have HB := n0_; clear n0_; (try clear hb); (try clear hb2); (try clear hk); (try clear hi)))
              go_ret
              exact ⟨by first | rfl | (simp [errW_none, errW_some] <;> rfl) | (simp [*, errW_none, errW_some] <;> rfl), by repeat (first | (with_reducible first | exact HB.out | apply below_alloc | apply pw_below_drewN | apply below_drew1) | exact HB.out)⟩
          · rw [if_neg c12] at H
            have c12b0 : (t125 == 1) = false := beq_eq_false_iff_ne.mpr c12
            have c12b1 : (t125 != 1) = true := bne_iff_ne.mpr c12
            obtain rfl := Option.some.inj H
            go_wp2_with (first | ((with_reducible refine gate_callee (f := 11) rfl ?_); refine goesL_ (some 31) rfl rfl Try.func11 (by kernel_rfl) rfl #[] rfl (by (try simp only [List.map_toArray, List.map_cons, List.map_nil]); first | done | rfl | (simp only [List.length_drop, List.length_take]; rfl)) ?_; (with_reducible refine (tarrylaw01_alive.calls kj4  true _ A10.out).mono ?_); rintro e w18 ⟨rfl, hb⟩; refine ⟨_, rfl, ?_⟩; have n0_ := Aside0.mk (below_step (by repeat (first | (with_reducible first | exact HB.out | apply below_alloc | apply pw_below_drewN | apply below_drew1) | exact HB.out)) hb); clear HB; have HB := n0_; clear n0_; (try clear hb); (try clear hb2); (try clear hk); (try clear hi)))
            go_ret
            exact ⟨by first | rfl | (simp [errW_none, errW_some] <;> rfl) | (simp [*, errW_none, errW_some] <;> rfl), by repeat (first | (with_reducible first | exact HB.out | apply below_alloc | apply pw_below_drewN | apply below_drew1) | exact HB.out)⟩
        · replace c11 := Bool.eq_false_iff.mpr c11
          subst c11
          have H1 : (some false) = some r := by rw [if_neg (show ¬ (false = true) by decide)] at H; exact H
          clear H
          have H := H1
          clear H1
          obtain rfl := Option.some.inj H
          go_wp2_with (first | ((with_reducible refine gate_callee (f := 11) rfl ?_); refine goesL_ (some 31) rfl rfl Try.func11 (by kernel_rfl) rfl #[] rfl (by (try simp only [List.map_toArray, List.map_cons, List.map_nil]); first | done | rfl | (simp only [List.length_drop, List.length_take]; rfl)) ?_; (with_reducible refine (tarrylaw01_alive.calls kj4  false _ A10.out).mono ?_); rintro e w19 ⟨rfl, hb⟩; refine ⟨_, rfl, ?_⟩; have n0_ := Aside0.mk (below_step (by repeat (first | (with_reducible first | exact HB.out | apply below_alloc | apply pw_below_drewN | apply below_drew1) | exact HB.out)) hb); clear HB; have HB := n0_; clear n0_; (try clear hb); (try clear hb2); (try clear hk); (try clear hi)))
          go_ret
          exact ⟨by first | rfl | (simp [errW_none, errW_some] <;> rfl) | (simp [*, errW_none, errW_some] <;> rfl), by repeat (first | (with_reducible first | exact HB.out | apply below_alloc | apply pw_below_drewN | apply below_drew1) | exact HB.out)⟩
      · replace c9 := Bool.eq_false_iff.mpr c9
        subst c9
        have H1 : ((tarryref01_Times.f kj4 a0 a1).bind fun bt131 => (if bt131.2 = true then (if t127 = 0 then (if t126 = bt131.1 then ((tarrylaw01_alive.f kj4).bind fun t133 => (tarrylaw01_PackSums.j1 kj4 a0 a1 t124 t125 (!t133))) else (tarrylaw01_PackSums.j1 kj4 a0 a1 t124 t125 true)) else (tarrylaw01_PackSums.j1 kj4 a0 a1 t124 t125 true)) else (if t127 = 2 then (if t126 = 0 then ((tarrylaw01_alive.f kj4).bind fun t134 => (tarrylaw01_PackSums.j1 kj4 a0 a1 t124 t125 (!t134))) else (tarrylaw01_PackSums.j1 kj4 a0 a1 t124 t125 true)) else (tarrylaw01_PackSums.j1 kj4 a0 a1 t124 t125 true)))) = some r := by rw [if_neg (show ¬ (false = true) by decide)] at H; exact H
        clear H
        have H := H1
        clear H1
        replace H := Option.bind_eq_some_iff.mp H
        obtain ⟨⟨t131, t132⟩, A200, H⟩ := H
        replace H : (if t132 = true then (if t127 = 0 then (if t126 = t131 then ((tarrylaw01_alive.f kj4).bind fun t133 => (tarrylaw01_PackSums.j1 kj4 a0 a1 t124 t125 (!t133))) else (tarrylaw01_PackSums.j1 kj4 a0 a1 t124 t125 true)) else (tarrylaw01_PackSums.j1 kj4 a0 a1 t124 t125 true)) else (if t127 = 2 then (if t126 = 0 then ((tarrylaw01_alive.f kj4).bind fun t134 => (tarrylaw01_PackSums.j1 kj4 a0 a1 t124 t125 (!t134))) else (tarrylaw01_PackSums.j1 kj4 a0 a1 t124 t125 true)) else (tarrylaw01_PackSums.j1 kj4 a0 a1 t124 t125 true))) = some r := H
        have A20 := Aside0.mk A200
        clear A200
        have HC21 := Aside0.mk H
        clear H
        go_upto_region 6 with (first | ((with_reducible refine gate_callee (f := 16) rfl ?_); refine goesL_ (some 51) rfl rfl Try.func16 (by kernel_rfl) rfl #[.int .i64 a0, .int .i64 a1] rfl (by (try simp only [List.map_toArray, List.map_cons, List.map_nil]); first | done | rfl | (simp only [List.length_drop, List.length_take]; rfl)) ?_; (with_reducible refine (tarryref01_Times.calls kj4 a0 a1 t131 t132 _ A20.out).mono ?_); rintro e w' ⟨rfl, ⟨nd, rfl⟩⟩; refine ⟨_, rfl, ?_⟩))
        (try simp only [Act.put, List.setIfInBounds_toArray, List.set_cons_zero, List.set_cons_succ])
        go_cut [79] (fun v79 wc => ∃ (kq : Nat) (x79_20 : Bool), v79 = .bool x79_20 ∧ Aside0 (tarrylaw01_PackSums.j1 kq a0 a1 t124 t125 x79_20 = some r) ∧ Aside0 (kq ≤ kj4) ∧ Aside0 (Below w.heap.size w wc))
        case first =>
          have H := HC21.out
          clear HC21
          by_cases c22 : t132 = true
          · subst c22
            have H1 : (if t127 = 0 then (if t126 = t131 then ((tarrylaw01_alive.f kj4).bind fun t133 => (tarrylaw01_PackSums.j1 kj4 a0 a1 t124 t125 (!t133))) else (tarrylaw01_PackSums.j1 kj4 a0 a1 t124 t125 true)) else (tarrylaw01_PackSums.j1 kj4 a0 a1 t124 t125 true)) = some r := by rw [if_pos rfl] at H; exact H
            clear H
            have H := H1
            clear H1
            by_cases c23 : t127 = 0
            · rw [if_pos c23] at H
              have c23b0 : (t127 == 0) = true := beq_iff_eq.mpr c23
              have c23b1 : (t127 != 0) = false := bne_eq_false_iff_eq.mpr c23
              clear c23
              (first | rw [c23b0] | (simp only [i64_w, i32_w]; rw [c23b0]) | skip)
              by_cases c24 : t126 = t131
              · rw [if_pos c24] at H
                have c24b0 : (t126 == t131) = true := beq_iff_eq.mpr c24
                have c24b1 : (t126 != t131) = false := bne_eq_false_iff_eq.mpr c24
                clear c24
                replace H := Option.bind_eq_some_iff.mp H
                obtain ⟨t133, A250, H⟩ := H
                replace H : (tarrylaw01_PackSums.j1 kj4 a0 a1 t124 t125 (!t133)) = some r := H
                have A25 := Aside0.mk A250
                clear A250
                have H' := Aside0.mk H
                clear H
                go_wp2_with (first | (go_at_call 11; (with_reducible refine (tarrylaw01_alive.calls kj4  t133 _ A25.out).mono ?_); rintro e w26 ⟨rfl, hb⟩; have n0_ := Aside0.mk (below_step (by repeat (first | (with_reducible first | exact HB.out | apply below_alloc | apply pw_below_drewN | apply below_drew1) | exact HB.out)) hb); clear HB; have HB := n0_; clear n0_; (try clear hb); (try clear hb2); (try clear hk); (try clear hi)))
                go_meet
                case rel => exact ⟨_, (!t133), (by first | rfl | (simp; done) | (simp [*]; done)), H', ⟨by have := HJ4.out; first | omega | exact Nat.le_refl _⟩, ⟨by repeat (first | (with_reducible first | exact HB.out | apply below_alloc | apply pw_below_drewN | apply below_drew1) | exact HB.out)⟩⟩
              · rw [if_neg c24] at H
                have c24b0 : (t126 == t131) = false := beq_eq_false_iff_ne.mpr c24
                have c24b1 : (t126 != t131) = true := bne_iff_ne.mpr c24
                have H' := Aside0.mk H
                clear H
                go_wp2
                go_meet
                case rel => exact ⟨_, (true), (by first | rfl | (simp; done) | (simp [*]; done)), H', ⟨by have := HJ4.out; first | omega | exact Nat.le_refl _⟩, ⟨by repeat (first | (with_reducible first | exact HB.out | apply below_alloc | apply pw_below_drewN | apply below_drew1) | exact HB.out)⟩⟩
            · rw [if_neg c23] at H
              have c23b0 : (t127 == 0) = false := beq_eq_false_iff_ne.mpr c23
              have c23b1 : (t127 != 0) = true := bne_iff_ne.mpr c23
              (first | rw [c23b0] | (simp only [i64_w, i32_w]; rw [c23b0]) | skip)
              have H' := Aside0.mk H
              clear H
              go_wp2
              go_meet
              case rel => exact ⟨_, (true), (by first | rfl | (simp; done) | (simp [*]; done)), H', ⟨by have := HJ4.out; first | omega | exact Nat.le_refl _⟩, ⟨by repeat (first | (with_reducible first | exact HB.out | apply below_alloc | apply pw_below_drewN | apply below_drew1) | exact HB.out)⟩⟩
          · replace c22 := Bool.eq_false_iff.mpr c22
            subst c22
            have H1 : (if t127 = 2 then (if t126 = 0 then ((tarrylaw01_alive.f kj4).bind fun t134 => (tarrylaw01_PackSums.j1 kj4 a0 a1 t124 t125 (!t134))) else (tarrylaw01_PackSums.j1 kj4 a0 a1 t124 t125 true)) else (tarrylaw01_PackSums.j1 kj4 a0 a1 t124 t125 true)) = some r := by rw [if_neg (show ¬ (false = true) by decide)] at H; exact H
            clear H
            have H := H1
            clear H1
            by_cases c27 : t127 = 2
            · rw [if_pos c27] at H
              have c27b0 : (t127 == 2) = true := beq_iff_eq.mpr c27
              have c27b1 : (t127 != 2) = false := bne_eq_false_iff_eq.mpr c27
              clear c27
              by_cases c28 : t126 = 0
              · rw [if_pos c28] at H
                have c28b0 : (t126 == 0) = true := beq_iff_eq.mpr c28
                have c28b1 : (t126 != 0) = false := bne_eq_false_iff_eq.mpr c28
                clear c28
                replace H := Option.bind_eq_some_iff.mp H
                obtain ⟨t134, A290, H⟩ := H
                replace H : (tarrylaw01_PackSums.j1 kj4 a0 a1 t124 t125 (!t134)) = some r := H
                have A29 := Aside0.mk A290
                clear A290
                have H' := Aside0.mk H
                clear H
                go_wp2_with (first | (go_at_call 11; (with_reducible refine (tarrylaw01_alive.calls kj4  t134 _ A29.out).mono ?_); rintro e w30 ⟨rfl, hb⟩; have n0_ := Aside0.mk (below_step (by repeat (first | (with_reducible first | exact HB.out | apply below_alloc | apply pw_below_drewN | apply below_drew1) | exact HB.out)) hb); clear HB; have HB := n0_; clear n0_; (try clear hb); (try clear hb2); (try clear hk); (try clear hi)))
                go_meet
                case rel => exact ⟨_, (!t134), (by first | rfl | (simp; done) | (simp [*]; done)), H', ⟨by have := HJ4.out; first | omega | exact Nat.le_refl _⟩, ⟨by repeat (first | (with_reducible first | exact HB.out | apply below_alloc | apply pw_below_drewN | apply below_drew1) | exact HB.out)⟩⟩
              · rw [if_neg c28] at H
                have c28b0 : (t126 == 0) = false := beq_eq_false_iff_ne.mpr c28
                have c28b1 : (t126 != 0) = true := bne_iff_ne.mpr c28
                have H' := Aside0.mk H
                clear H
                go_wp2
                go_meet
                case rel => exact ⟨_, (true), (by first | rfl | (simp; done) | (simp [*]; done)), H', ⟨by have := HJ4.out; first | omega | exact Nat.le_refl _⟩, ⟨by repeat (first | (with_reducible first | exact HB.out | apply below_alloc | apply pw_below_drewN | apply below_drew1) | exact HB.out)⟩⟩
            · rw [if_neg c27] at H
              have c27b0 : (t127 == 2) = false := beq_eq_false_iff_ne.mpr c27
              have c27b1 : (t127 != 2) = true := bne_iff_ne.mpr c27
              have H' := Aside0.mk H
              clear H
              go_wp2
              go_meet
              case rel => exact ⟨_, (true), (by first | rfl | (simp; done) | (simp [*]; done)), H', ⟨by have := HJ4.out; first | omega | exact Nat.le_refl _⟩, ⟨by repeat (first | (with_reducible first | exact HB.out | apply below_alloc | apply pw_below_drewN | apply below_drew1) | exact HB.out)⟩⟩
        case rest =>
          clear HC21
          try clear c1
          try clear c2
          try clear p2
          try clear c4
          try clear c7
          try clear c9
          try clear c11
          try clear c12
          try clear c12b0
          try clear c12b1
          try clear c13
          try clear c13b0
          try clear c13b1
          try clear c14
          try clear c14b0
          try clear c14b1
          try clear c15
          try clear c16
          try clear c22
          try clear c23
          try clear c23b0
          try clear c23b1
          try clear c24
          try clear c24b0
          try clear c24b1
          try clear c27
          try clear c27b0
          try clear c27b1
          try clear c28
          try clear c28b0
          try clear c28b1
          try clear p2
          obtain ⟨kq, x79_20, rfl, HA, HJ20, HB⟩ := hcut
          cases kq with
          | zero => exact absurd HA.out (by simp [tarrylaw01_PackSums.j1])
          | succ kj20 =>
            have H := HA.out
            clear HA
            simp only [tarrylaw01_PackSums.j1] at H
            by_cases c31 : x79_20 = true
            · subst c31
              have H1 : (some false) = some r := by rw [if_pos rfl] at H; exact H
              clear H
              have H := H1
              clear H1
              obtain rfl := Option.some.inj H
              go_wp2
              go_ret
              exact ⟨by first | rfl | (simp [errW_none, errW_some] <;> rfl) | (simp [*, errW_none, errW_some] <;> rfl), by repeat (first | (with_reducible first | exact HB.out | apply below_alloc | apply pw_below_drewN | apply below_drew1) | exact HB.out)⟩
            · replace c31 := Bool.eq_false_iff.mpr c31
              subst c31
              have H1 : ((tarryref01_May.f (wrap64 (a0 + a1))).bind fun t135 => (if t135 = true then (if t125 = 0 then (some (t124 == (wrap64 (a0 + a1)))) else (some false)) else (if t125 = 2 then (some (t124 == 0)) else (some false)))) = some r := by rw [if_neg (show ¬ (false = true) by decide)] at H; exact H
              clear H
              have H := H1
              clear H1
              replace H := Option.bind_eq_some_iff.mp H
              obtain ⟨t135, A320, H⟩ := H
              replace H : (if t135 = true then (if t125 = 0 then (some (t124 == (wrap64 (a0 + a1)))) else (some false)) else (if t125 = 2 then (some (t124 == 0)) else (some false))) = some r := H
              have A32 := Aside0.mk A320
              clear A320
              by_cases c33 : t135 = true
              · subst c33
                have H1 : (if t125 = 0 then (some (t124 == (wrap64 (a0 + a1)))) else (some false)) = some r := by rw [if_pos rfl] at H; exact H
                clear H
                have H := H1
                clear H1
                by_cases c34 : t125 = 0
                · rw [if_pos c34] at H
                  have c34b0 : (t125 == 0) = true := beq_iff_eq.mpr c34
                  have c34b1 : (t125 != 0) = false := bne_eq_false_iff_eq.mpr c34
                  clear c34
                  obtain rfl := Option.some.inj H
                  go_wp2_with (first | ((with_reducible refine gate_callee (f := 12) rfl ?_); refine goesL_ (some 83) rfl rfl Try.func12 (by kernel_rfl) rfl #[.int .i64 (wrap64 (a0 + a1))] rfl (by (try simp only [List.map_toArray, List.map_cons, List.map_nil]); first | done | rfl | (simp only [List.length_drop, List.length_take]; rfl)) ?_; (with_reducible refine (tarryref01_May.calls (wrap64 (a0 + a1)) true _ A32.out).mono ?_); rintro e w' ⟨rfl, ⟨nd, rfl⟩⟩; refine ⟨_, rfl, ?_⟩))
                  go_ret
                  exact ⟨by first | rfl | (simp [errW_none, errW_some] <;> rfl) | (simp [*, errW_none, errW_some] <;> rfl), by repeat (first | (with_reducible first | exact HB.out | apply below_alloc | apply pw_below_drewN | apply below_drew1) | exact HB.out)⟩
                · rw [if_neg c34] at H
                  have c34b0 : (t125 == 0) = false := beq_eq_false_iff_ne.mpr c34
                  have c34b1 : (t125 != 0) = true := bne_iff_ne.mpr c34
                  obtain rfl := Option.some.inj H
                  go_wp2_with (first | ((with_reducible refine gate_callee (f := 12) rfl ?_); refine goesL_ (some 83) rfl rfl Try.func12 (by kernel_rfl) rfl #[.int .i64 (wrap64 (a0 + a1))] rfl (by (try simp only [List.map_toArray, List.map_cons, List.map_nil]); first | done | rfl | (simp only [List.length_drop, List.length_take]; rfl)) ?_; (with_reducible refine (tarryref01_May.calls (wrap64 (a0 + a1)) true _ A32.out).mono ?_); rintro e w' ⟨rfl, ⟨nd, rfl⟩⟩; refine ⟨_, rfl, ?_⟩))
                  go_ret
                  exact ⟨by first | rfl | (simp [errW_none, errW_some] <;> rfl) | (simp [*, errW_none, errW_some] <;> rfl), by repeat (first | (with_reducible first | exact HB.out | apply below_alloc | apply pw_below_drewN | apply below_drew1) | exact HB.out)⟩
              · replace c33 := Bool.eq_false_iff.mpr c33
                subst c33
                have H1 : (if t125 = 2 then (some (t124 == 0)) else (some false)) = some r := by rw [if_neg (show ¬ (false = true) by decide)] at H; exact H
                clear H
                have H := H1
                clear H1
                by_cases c35 : t125 = 2
                · rw [if_pos c35] at H
                  have c35b0 : (t125 == 2) = true := beq_iff_eq.mpr c35
                  have c35b1 : (t125 != 2) = false := bne_eq_false_iff_eq.mpr c35
                  clear c35
                  obtain rfl := Option.some.inj H
                  go_wp2_with (first | ((with_reducible refine gate_callee (f := 12) rfl ?_); refine goesL_ (some 83) rfl rfl Try.func12 (by kernel_rfl) rfl #[.int .i64 (wrap64 (a0 + a1))] rfl (by (try simp only [List.map_toArray, List.map_cons, List.map_nil]); first | done | rfl | (simp only [List.length_drop, List.length_take]; rfl)) ?_; (with_reducible refine (tarryref01_May.calls (wrap64 (a0 + a1)) false _ A32.out).mono ?_); rintro e w' ⟨rfl, ⟨nd, rfl⟩⟩; refine ⟨_, rfl, ?_⟩))
                  go_ret
                  exact ⟨by first | rfl | (simp [errW_none, errW_some] <;> rfl) | (simp [*, errW_none, errW_some] <;> rfl), by repeat (first | (with_reducible first | exact HB.out | apply below_alloc | apply pw_below_drewN | apply below_drew1) | exact HB.out)⟩
                · rw [if_neg c35] at H
                  have c35b0 : (t125 == 2) = false := beq_eq_false_iff_ne.mpr c35
                  have c35b1 : (t125 != 2) = true := bne_iff_ne.mpr c35
                  obtain rfl := Option.some.inj H
                  go_wp2_with (first | ((with_reducible refine gate_callee (f := 12) rfl ?_); refine goesL_ (some 83) rfl rfl Try.func12 (by kernel_rfl) rfl #[.int .i64 (wrap64 (a0 + a1))] rfl (by (try simp only [List.map_toArray, List.map_cons, List.map_nil]); first | done | rfl | (simp only [List.length_drop, List.length_take]; rfl)) ?_; (with_reducible refine (tarryref01_May.calls (wrap64 (a0 + a1)) false _ A32.out).mono ?_); rintro e w' ⟨rfl, ⟨nd, rfl⟩⟩; refine ⟨_, rfl, ?_⟩))
                  go_ret
                  exact ⟨by first | rfl | (simp [errW_none, errW_some] <;> rfl) | (simp [*, errW_none, errW_some] <;> rfl), by repeat (first | (with_reducible first | exact HB.out | apply below_alloc | apply pw_below_drewN | apply below_drew1) | exact HB.out)⟩

/-- THE ONE PURE STATEMENT of tarrylaw01_PackSums: yours. -/
def tarrylaw01_PackSums.Pure : Prop := ∀ (a0 : Int) (a1 : Int), (Lit.int .i64 a0).wf = true → (Lit.int .i64 a1).wf = true → ∃ k, tarrylaw01_PackSums.f k a0 a1 = some true
theorem tarrylaw01_PackSums.walk (P : tarrylaw01_PackSums.Pure) (a0 : Int) (a1 : Int) (w : World) (w0 : (Lit.int .i64 a0).wf = true) (w1 : (Lit.int .i64 a1).wf = true) :
    Calls Try.prog 4 #[.int .i64 a0, .int .i64 a1] w fun e w' => e = .returned (.bool true) ∧ Below w.heap.size w w' := by
  obtain ⟨k, h⟩ := P a0 a1 w0 w1
  refine (tarrylaw01_PackSums.calls k a0 a1 true w h).mono ?_
  rintro e w' ⟨rfl, hd⟩
  exact ⟨rfl, hd⟩

end Go.Proofs.Ytacenfolbmdpoaa.PPackSums
