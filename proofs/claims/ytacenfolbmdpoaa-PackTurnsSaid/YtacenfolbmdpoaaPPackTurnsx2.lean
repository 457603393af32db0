-- PRINTED BY print.sh 35421559b90ae4d0a3588c463048766b98c2df88dd9212a6774a882060cdf62d: not written by this session
import Derived.Test.YtacenfolbmdpoaaPPackTurnsx0
import Derived.Test.YtacenfolbmdpoaaPPackTurnsx1
namespace Go.Proofs.Ytacenfolbmdpoaa.PPackTurns
open Go.RowKit Go.Proofs.YtacenfolbmdpoaaW.PrintWords Go.Proofs.YtacenfolbmdpoaaW.PrintLast Go.Proofs.YtacenfolbmdpoaaW.PrintMore
attribute [local go_sem] max2_int min2_int max_two min_two max_three min_three max_four min_four   -- for this text's walks alone
set_option linter.unusedVariables false
set_option linter.unusedSimpArgs false

/-! ### tarrylaw01_PackTurns: function 5 -/
mutual
def tarrylaw01_PackTurns.j0 : Nat → Int → Int → Int → Int → Int → Int → Bool → Option (Bool)
  | 0, _, _, _, _, _, _, _ => none
  | k + 1, x0, x1, x5, x6, x9, x10, x64 => if x64 = true then (some false) else (if x6 = 0 then ((pack_Add.f k x5 (wrap64 (-x1))).bind fun bt130 => (if bt130.2 = 0 then (if bt130.1 = x0 then (tarrylaw01_PackTurns.j1 k x0 x1 x9 x10) else (some false)) else (some false))) else (tarrylaw01_PackTurns.j1 k x0 x1 x9 x10))
def tarrylaw01_PackTurns.j1 : Nat → Int → Int → Int → Int → Option (Bool)
  | 0, _, _, _, _ => none
  | k + 1, x0, x1, x9, x10 => if x10 = 0 then (if x1 = 0 then (tarrylaw01_PackTurns.j2 k x0 false) else (tarrylaw01_PackTurns.j2 k x0 ((wrap64 (Int.tdiv x9 x1)) != x0))) else (tarrylaw01_PackTurns.j2 k x0 false)
def tarrylaw01_PackTurns.j2 : Nat → Int → Bool → Option (Bool)
  | 0, _, _ => none
  | k + 1, x0, x93 => if x93 = true then (some false) else ((pack_Number.f k x0).bind fun bt132 => ((pack_Number.f k (wrap64 (-x0))).bind fun bt134 => (if ((bt132.2 == 0) == (bt134.2 == 0)) = true then (if (wrap64 ((bt132.1.size : Int) - (bt134.1.size : Int))) ≤ 1 then (some (decide ((wrap64 ((bt134.1.size : Int) - (bt132.1.size : Int))) ≤ 1))) else (some false)) else (some false))))
end
def tarrylaw01_PackTurns.f (k : Nat) (a0 : Int) (a1 : Int) : Option (Bool) := (pack_Add.f k a0 a1).bind fun bt121 => ((pack_Add.f k a1 a0).bind fun bt123 => ((pack_Times.f k a0 a1).bind fun bt125 => ((pack_Times.f k a1 a0).bind fun bt127 => (if bt121.1 = bt123.1 then (if bt121.2 = bt123.2 then (if bt125.1 = bt127.1 then (if bt125.2 = bt127.2 then ((tarrylaw01_alive.f k).bind fun t129 => (tarrylaw01_PackTurns.j0 k a0 a1 bt121.1 bt121.2 bt125.1 bt125.2 (!t129))) else (tarrylaw01_PackTurns.j0 k a0 a1 bt121.1 bt121.2 bt125.1 bt125.2 true)) else (tarrylaw01_PackTurns.j0 k a0 a1 bt121.1 bt121.2 bt125.1 bt125.2 true)) else (tarrylaw01_PackTurns.j0 k a0 a1 bt121.1 bt121.2 bt125.1 bt125.2 true)) else (tarrylaw01_PackTurns.j0 k a0 a1 bt121.1 bt121.2 bt125.1 bt125.2 true)))))
theorem tarrylaw01_PackTurns.mono_l : ∀ k, (∀ y0 y1 y2 y3 y4 y5 y6, LeO (tarrylaw01_PackTurns.j0 k y0 y1 y2 y3 y4 y5 y6) (tarrylaw01_PackTurns.j0 (k + 1) y0 y1 y2 y3 y4 y5 y6)) ∧ (∀ y0 y1 y2 y3, LeO (tarrylaw01_PackTurns.j1 k y0 y1 y2 y3) (tarrylaw01_PackTurns.j1 (k + 1) y0 y1 y2 y3)) ∧ (∀ y0 y1, LeO (tarrylaw01_PackTurns.j2 k y0 y1) (tarrylaw01_PackTurns.j2 (k + 1) y0 y1))
  | 0 => ⟨fun _ _ _ _ _ _ _ r h => by simp [tarrylaw01_PackTurns.j0] at h, fun _ _ _ _ r h => by simp [tarrylaw01_PackTurns.j1] at h, fun _ _ r h => by simp [tarrylaw01_PackTurns.j2] at h⟩
  | k + 1 => by
    obtain ⟨ih0, ih1, ih2⟩ := tarrylaw01_PackTurns.mono_l k
    refine ⟨?_, ?_, ?_⟩
    · intro y0 y1 y2 y3 y4 y5 y6
      unfold tarrylaw01_PackTurns.j0
      repeat' first
      | (with_reducible exact ih0 _ _ _ _ _ _ _)
      | (with_reducible exact ih1 _ _ _ _)
      | (with_reducible exact ih2 _ _)
      | (with_reducible exact pack_Add.mono _ _ _)
      | (with_reducible exact pack_Number.mono _ _)
      | (with_reducible exact pack_Times.mono _ _ _)
      | (with_reducible exact tarrylaw01_alive.mono _)
      | (with_reducible exact LeO.refl _)
      | (with_reducible exact LeO.none _)
      | (with_reducible refine LeO.ite ?_ ?_)
      | (with_reducible refine LeO.bind ?_ (fun _ => ?_))
      | exact ih0 _ _ _ _ _ _ _
      | exact ih1 _ _ _ _
      | exact ih2 _ _
      | exact pack_Add.mono _ _ _
      | exact pack_Number.mono _ _
      | exact pack_Times.mono _ _ _
      | exact tarrylaw01_alive.mono _
      | exact LeO.none _
      | refine LeO.ite ?_ ?_
      | refine LeO.bind ?_ (fun _ => ?_)
    · intro y0 y1 y2 y3
      unfold tarrylaw01_PackTurns.j1
      repeat' first
      | (with_reducible exact ih0 _ _ _ _ _ _ _)
      | (with_reducible exact ih1 _ _ _ _)
      | (with_reducible exact ih2 _ _)
      | (with_reducible exact pack_Add.mono _ _ _)
      | (with_reducible exact pack_Number.mono _ _)
      | (with_reducible exact pack_Times.mono _ _ _)
      | (with_reducible exact tarrylaw01_alive.mono _)
      | (with_reducible exact LeO.refl _)
      | (with_reducible exact LeO.none _)
      | (with_reducible refine LeO.ite ?_ ?_)
      | (with_reducible refine LeO.bind ?_ (fun _ => ?_))
      | exact ih0 _ _ _ _ _ _ _
      | exact ih1 _ _ _ _
      | exact ih2 _ _
      | exact pack_Add.mono _ _ _
      | exact pack_Number.mono _ _
      | exact pack_Times.mono _ _ _
      | exact tarrylaw01_alive.mono _
      | exact LeO.none _
      | refine LeO.ite ?_ ?_
      | refine LeO.bind ?_ (fun _ => ?_)
    · intro y0 y1
      unfold tarrylaw01_PackTurns.j2
      repeat' first
      | (with_reducible exact ih0 _ _ _ _ _ _ _)
      | (with_reducible exact ih1 _ _ _ _)
      | (with_reducible exact ih2 _ _)
      | (with_reducible exact pack_Add.mono _ _ _)
      | (with_reducible exact pack_Number.mono _ _)
      | (with_reducible exact pack_Times.mono _ _ _)
      | (with_reducible exact tarrylaw01_alive.mono _)
      | (with_reducible exact LeO.refl _)
      | (with_reducible exact LeO.none _)
      | (with_reducible refine LeO.ite ?_ ?_)
      | (with_reducible refine LeO.bind ?_ (fun _ => ?_))
      | exact ih0 _ _ _ _ _ _ _
      | exact ih1 _ _ _ _
      | exact ih2 _ _
      | exact pack_Add.mono _ _ _
      | exact pack_Number.mono _ _
      | exact pack_Times.mono _ _ _
      | exact tarrylaw01_alive.mono _
      | exact LeO.none _
      | refine LeO.ite ?_ ?_
      | refine LeO.bind ?_ (fun _ => ?_)
theorem tarrylaw01_PackTurns.mono : ∀ a0 a1 k, LeO (tarrylaw01_PackTurns.f k a0 a1) (tarrylaw01_PackTurns.f (k + 1) a0 a1) := by
  intro a0 a1 k
  obtain ⟨ih0, ih1, ih2⟩ := tarrylaw01_PackTurns.mono_l k
  unfold tarrylaw01_PackTurns.f
  repeat' first
      | (with_reducible exact ih0 _ _ _ _ _ _ _)
      | (with_reducible exact ih1 _ _ _ _)
      | (with_reducible exact ih2 _ _)
      | (with_reducible exact pack_Add.mono _ _ _)
      | (with_reducible exact pack_Number.mono _ _)
      | (with_reducible exact pack_Times.mono _ _ _)
      | (with_reducible exact tarrylaw01_alive.mono _)
      | (with_reducible exact LeO.refl _)
      | (with_reducible exact LeO.none _)
      | (with_reducible refine LeO.ite ?_ ?_)
      | (with_reducible refine LeO.bind ?_ (fun _ => ?_))
      | exact ih0 _ _ _ _ _ _ _
      | exact ih1 _ _ _ _
      | exact ih2 _ _
      | exact pack_Add.mono _ _ _
      | exact pack_Number.mono _ _
      | exact pack_Times.mono _ _ _
      | exact tarrylaw01_alive.mono _
      | exact LeO.none _
      | refine LeO.ite ?_ ?_
      | refine LeO.bind ?_ (fun _ => ?_)
set_option maxHeartbeats 8000000 in
set_option maxRecDepth 100000 in
theorem tarrylaw01_PackTurns.calls (k : Nat) (a0 : Int) (a1 : Int) (r : Bool) (w : World) (h : tarrylaw01_PackTurns.f k a0 a1 = some r) :
    Calls Try.prog 5 #[.int .i64 a0, .int .i64 a1] w fun e w' => e = .returned (.bool r) ∧ Below w.heap.size w w' := by
  have HB := Aside0.mk (Below.refl w.heap.size w)
  have H : ((pack_Add.f k a0 a1).bind fun bt121 => ((pack_Add.f k a1 a0).bind fun bt123 => ((pack_Times.f k a0 a1).bind fun bt125 => ((pack_Times.f k a1 a0).bind fun bt127 => (if bt121.1 = bt123.1 then (if bt121.2 = bt123.2 then (if bt125.1 = bt127.1 then (if bt125.2 = bt127.2 then ((tarrylaw01_alive.f k).bind fun t129 => (tarrylaw01_PackTurns.j0 k a0 a1 bt121.1 bt121.2 bt125.1 bt125.2 (!t129))) else (tarrylaw01_PackTurns.j0 k a0 a1 bt121.1 bt121.2 bt125.1 bt125.2 true)) else (tarrylaw01_PackTurns.j0 k a0 a1 bt121.1 bt121.2 bt125.1 bt125.2 true)) else (tarrylaw01_PackTurns.j0 k a0 a1 bt121.1 bt121.2 bt125.1 bt125.2 true)) else (tarrylaw01_PackTurns.j0 k a0 a1 bt121.1 bt121.2 bt125.1 bt125.2 true)))))) = some r := h
  clear h
  replace H := Option.bind_eq_some_iff.mp H
  obtain ⟨⟨t121, t122⟩, A30, H⟩ := H
  replace H : ((pack_Add.f k a1 a0).bind fun bt123 => ((pack_Times.f k a0 a1).bind fun bt125 => ((pack_Times.f k a1 a0).bind fun bt127 => (if t121 = bt123.1 then (if t122 = bt123.2 then (if bt125.1 = bt127.1 then (if bt125.2 = bt127.2 then ((tarrylaw01_alive.f k).bind fun t129 => (tarrylaw01_PackTurns.j0 k a0 a1 t121 t122 bt125.1 bt125.2 (!t129))) else (tarrylaw01_PackTurns.j0 k a0 a1 t121 t122 bt125.1 bt125.2 true)) else (tarrylaw01_PackTurns.j0 k a0 a1 t121 t122 bt125.1 bt125.2 true)) else (tarrylaw01_PackTurns.j0 k a0 a1 t121 t122 bt125.1 bt125.2 true)) else (tarrylaw01_PackTurns.j0 k a0 a1 t121 t122 bt125.1 bt125.2 true))))) = some r := H
  have A3 := Aside0.mk A30
  clear A30
  replace H := Option.bind_eq_some_iff.mp H
  obtain ⟨⟨t123, t124⟩, A40, H⟩ := H
  replace H : ((pack_Times.f k a0 a1).bind fun bt125 => ((pack_Times.f k a1 a0).bind fun bt127 => (if t121 = t123 then (if t122 = t124 then (if bt125.1 = bt127.1 then (if bt125.2 = bt127.2 then ((tarrylaw01_alive.f k).bind fun t129 => (tarrylaw01_PackTurns.j0 k a0 a1 t121 t122 bt125.1 bt125.2 (!t129))) else (tarrylaw01_PackTurns.j0 k a0 a1 t121 t122 bt125.1 bt125.2 true)) else (tarrylaw01_PackTurns.j0 k a0 a1 t121 t122 bt125.1 bt125.2 true)) else (tarrylaw01_PackTurns.j0 k a0 a1 t121 t122 bt125.1 bt125.2 true)) else (tarrylaw01_PackTurns.j0 k a0 a1 t121 t122 bt125.1 bt125.2 true)))) = some r := H
  have A4 := Aside0.mk A40
  clear A40
  replace H := Option.bind_eq_some_iff.mp H
  obtain ⟨⟨t125, t126⟩, A50, H⟩ := H
  replace H : ((pack_Times.f k a1 a0).bind fun bt127 => (if t121 = t123 then (if t122 = t124 then (if t125 = bt127.1 then (if t126 = bt127.2 then ((tarrylaw01_alive.f k).bind fun t129 => (tarrylaw01_PackTurns.j0 k a0 a1 t121 t122 t125 t126 (!t129))) else (tarrylaw01_PackTurns.j0 k a0 a1 t121 t122 t125 t126 true)) else (tarrylaw01_PackTurns.j0 k a0 a1 t121 t122 t125 t126 true)) else (tarrylaw01_PackTurns.j0 k a0 a1 t121 t122 t125 t126 true)) else (tarrylaw01_PackTurns.j0 k a0 a1 t121 t122 t125 t126 true))) = some r := H
  have A5 := Aside0.mk A50
  clear A50
  replace H := Option.bind_eq_some_iff.mp H
  obtain ⟨⟨t127, t128⟩, A60, H⟩ := H
  replace H : (if t121 = t123 then (if t122 = t124 then (if t125 = t127 then (if t126 = t128 then ((tarrylaw01_alive.f k).bind fun t129 => (tarrylaw01_PackTurns.j0 k a0 a1 t121 t122 t125 t126 (!t129))) else (tarrylaw01_PackTurns.j0 k a0 a1 t121 t122 t125 t126 true)) else (tarrylaw01_PackTurns.j0 k a0 a1 t121 t122 t125 t126 true)) else (tarrylaw01_PackTurns.j0 k a0 a1 t121 t122 t125 t126 true)) else (tarrylaw01_PackTurns.j0 k a0 a1 t121 t122 t125 t126 true)) = some r := H
  have A6 := Aside0.mk A60
  clear A60
  have HC7 := Aside0.mk H
  clear H
  go_enter Try.func5, Try.ntmps5
  go_upto_region 5 with (first | ((with_reducible refine gate_callee (f := 14) rfl ?_); refine goesL_ (some 22) rfl rfl Try.func14 (by kernel_rfl) rfl #[.int .i64 a0, .int .i64 a1] rfl (by (try simp only [List.map_toArray, List.map_cons, List.map_nil]); first | done | rfl | (simp only [List.length_drop, List.length_take]; rfl)) ?_; (with_reducible refine (pack_Add.calls k a0 a1 t121 t122 _ A3.out).mono ?_); rintro e w' ⟨rfl, ⟨nd, rfl⟩⟩; refine ⟨_, rfl, ?_⟩) | ((with_reducible refine gate_callee (f := 14) rfl ?_); refine goesL_ (some 28) rfl rfl Try.func14 (by kernel_rfl) rfl #[.int .i64 a1, .int .i64 a0] rfl (by (try simp only [List.map_toArray, List.map_cons, List.map_nil]); first | done | rfl | (simp only [List.length_drop, List.length_take]; rfl)) ?_; (with_reducible refine (pack_Add.calls k a1 a0 t123 t124 _ A4.out).mono ?_); rintro e w' ⟨rfl, ⟨nd, rfl⟩⟩; refine ⟨_, rfl, ?_⟩) | ((with_reducible refine gate_callee (f := 15) rfl ?_); refine goesL_ (some 34) rfl rfl Try.func15 (by kernel_rfl) rfl #[.int .i64 a0, .int .i64 a1] rfl (by (try simp only [List.map_toArray, List.map_cons, List.map_nil]); first | done | rfl | (simp only [List.length_drop, List.length_take]; rfl)) ?_; (with_reducible refine (pack_Times.calls k a0 a1 t125 t126 _ A5.out).mono ?_); rintro e w' ⟨rfl, ⟨nd, rfl⟩⟩; refine ⟨_, rfl, ?_⟩) | ((with_reducible refine gate_callee (f := 15) rfl ?_); refine goesL_ (some 40) rfl rfl Try.func15 (by kernel_rfl) rfl #[.int .i64 a1, .int .i64 a0] rfl (by (try simp only [List.map_toArray, List.map_cons, List.map_nil]); first | done | rfl | (simp only [List.length_drop, List.length_take]; rfl)) ?_; (with_reducible refine (pack_Times.calls k a1 a0 t127 t128 _ A6.out).mono ?_); rintro e w' ⟨rfl, ⟨nd, rfl⟩⟩; refine ⟨_, rfl, ?_⟩))
  (try simp only [Act.put, List.setIfInBounds_toArray, List.set_cons_zero, List.set_cons_succ])
  go_cut [64] (fun v64 wc => ∃ (kq : Nat) (x64_6 : Bool), v64 = .bool x64_6 ∧ Aside0 (tarrylaw01_PackTurns.j0 kq a0 a1 t121 t122 t125 t126 x64_6 = some r) ∧ Aside0 (kq ≤ k) ∧ Aside0 (Below w.heap.size w wc))
  case first =>
    have H := HC7.out
    clear HC7
    by_cases c8 : t121 = t123
    · rw [if_pos c8] at H
      have c8b0 : (t121 == t123) = true := beq_iff_eq.mpr c8
      have c8b1 : (t121 != t123) = false := bne_eq_false_iff_eq.mpr c8
      clear c8
      (first | rw [c8b0] | (simp only [i64_w, i32_w]; rw [c8b0]) | skip)
      by_cases c9 : t122 = t124
      · rw [if_pos c9] at H
        have c9b0 : (t122 == t124) = true := beq_iff_eq.mpr c9
        have c9b1 : (t122 != t124) = false := bne_eq_false_iff_eq.mpr c9
        clear c9
        by_cases c10 : t125 = t127
        · rw [if_pos c10] at H
          have c10b0 : (t125 == t127) = true := beq_iff_eq.mpr c10
          have c10b1 : (t125 != t127) = false := bne_eq_false_iff_eq.mpr c10
          clear c10
          by_cases c11 : t126 = t128
          · rw [if_pos c11] at H
            have c11b0 : (t126 == t128) = true := beq_iff_eq.mpr c11
            have c11b1 : (t126 != t128) = false := bne_eq_false_iff_eq.mpr c11
            clear c11
            replace H := Option.bind_eq_some_iff.mp H
            obtain ⟨t129, A120, H⟩ := H
            replace H : (tarrylaw01_PackTurns.j0 k a0 a1 t121 t122 t125 t126 (!t129)) = some r := H
            have A12 := Aside0.mk A120
            clear A120
            have H' := Aside0.mk H
            clear H
            go_wp2_with (first | (go_at_call 11; (with_reducible refine (tarrylaw01_alive.calls k  t129 _ A12.out).mono ?_); rintro e w13 ⟨rfl, hb⟩; have n0_ := Aside0.mk (below_step (by repeat (first | (with_reducible first | exact HB.out | apply below_alloc | apply pw_below_drewN | apply below_drew1) | exact HB.out)) hb); clear HB; have HB := n0_; clear n0_; (try clear hb); (try clear hb2); (try clear hk); (try clear hi)))
            go_meet
            case rel => exact ⟨_, (!t129), (by first | rfl | (simp; done) | (simp [*]; done)), H', ⟨by first | omega | exact Nat.le_refl _⟩, ⟨by repeat (first | (with_reducible first | exact HB.out | apply below_alloc | apply pw_below_drewN | apply below_drew1) | exact HB.out)⟩⟩
          · rw [if_neg c11] at H
            have c11b0 : (t126 == t128) = false := beq_eq_false_iff_ne.mpr c11
            have c11b1 : (t126 != t128) = true := bne_iff_ne.mpr c11
            have H' := Aside0.mk H
            clear H
            go_wp2
            go_meet
            case rel => exact ⟨_, (true), (by first | rfl | (simp; done) | (simp [*]; done)), H', ⟨by first | omega | exact Nat.le_refl _⟩, ⟨by repeat (first | (with_reducible first | exact HB.out | apply below_alloc | apply pw_below_drewN | apply below_drew1) | exact HB.out)⟩⟩
        · rw [if_neg c10] at H
          have c10b0 : (t125 == t127) = false := beq_eq_false_iff_ne.mpr c10
          have c10b1 : (t125 != t127) = true := bne_iff_ne.mpr c10
          have H' := Aside0.mk H
          clear H
          go_wp2
          go_meet
          case rel => exact ⟨_, (true), (by first | rfl | (simp; done) | (simp [*]; done)), H', ⟨by first | omega | exact Nat.le_refl _⟩, ⟨by repeat (first | (with_reducible first | exact HB.out | apply below_alloc | apply pw_below_drewN | apply below_drew1) | exact HB.out)⟩⟩
      · rw [if_neg c9] at H
        have c9b0 : (t122 == t124) = false := beq_eq_false_iff_ne.mpr c9
        have c9b1 : (t122 != t124) = true := bne_iff_ne.mpr c9
        have H' := Aside0.mk H
        clear H
        go_wp2
        go_meet
        case rel => exact ⟨_, (true), (by first | rfl | (simp; done) | (simp [*]; done)), H', ⟨by first | omega | exact Nat.le_refl _⟩, ⟨by repeat (first | (with_reducible first | exact HB.out | apply below_alloc | apply pw_below_drewN | apply below_drew1) | exact HB.out)⟩⟩
    · rw [if_neg c8] at H
      have c8b0 : (t121 == t123) = false := beq_eq_false_iff_ne.mpr c8
      have c8b1 : (t121 != t123) = true := bne_iff_ne.mpr c8
      (first | rw [c8b0] | (simp only [i64_w, i32_w]; rw [c8b0]) | skip)
      have H' := Aside0.mk H
      clear H
      go_wp2
      go_meet
      case rel => exact ⟨_, (true), (by first | rfl | (simp; done) | (simp [*]; done)), H', ⟨by first | omega | exact Nat.le_refl _⟩, ⟨by repeat (first | (with_reducible first | exact HB.out | apply below_alloc | apply pw_below_drewN | apply below_drew1) | exact HB.out)⟩⟩
  case rest =>
    clear HC7
    try clear c1
    try clear p2
    try clear c5
    try clear c8
    try clear c8b0
    try clear c8b1
    try clear c9
    try clear c9b0
    try clear c9b1
    try clear c10
    try clear c10b0
    try clear c10b1
    try clear c11
    try clear c11b0
    try clear c11b1
    obtain ⟨kq, x64_6, rfl, HA, HJ6, HB⟩ := hcut
    cases kq with
    | zero => exact absurd HA.out (by simp [tarrylaw01_PackTurns.j0])
    | succ kj6 =>
      have H := HA.out
      clear HA
      simp only [tarrylaw01_PackTurns.j0] at H
      by_cases c14 : x64_6 = true
      · subst c14
        have H1 : (some false) = some r := by rw [if_pos rfl] at H; exact H
        clear H
        have H := H1
        clear H1
        obtain rfl := Option.some.inj H
        go_wp2
        go_ret
        exact ⟨by first | rfl | (simp [errW_none, errW_some] <;> rfl) | (simp [*, errW_none, errW_some] <;> rfl), by repeat (first | (with_reducible first | exact HB.out | apply below_alloc | apply pw_below_drewN | apply below_drew1) | exact HB.out)⟩
      · replace c14 := Bool.eq_false_iff.mpr c14
        subst c14
        have H1 : (if t122 = 0 then ((pack_Add.f kj6 t121 (wrap64 (-a1))).bind fun bt130 => (if bt130.2 = 0 then (if bt130.1 = a0 then (tarrylaw01_PackTurns.j1 kj6 a0 a1 t125 t126) else (some false)) else (some false))) else (tarrylaw01_PackTurns.j1 kj6 a0 a1 t125 t126)) = some r := by rw [if_neg (show ¬ (false = true) by decide)] at H; exact H
        clear H
        have H := H1
        clear H1
        have HC15 := Aside0.mk H
        clear H
        go_upto_if 66 with (fail)
        go_cut [] (fun wc => ∃ (kq : Nat), Aside0 (tarrylaw01_PackTurns.j1 kq a0 a1 t125 t126 = some r) ∧ Aside0 (kq ≤ kj6) ∧ Aside0 (Below w.heap.size w wc))
        case first =>
          have H := HC15.out
          clear HC15
          by_cases c16 : t122 = 0
          · rw [if_pos c16] at H
            have c16b0 : (t122 == 0) = true := beq_iff_eq.mpr c16
            have c16b1 : (t122 != 0) = false := bne_eq_false_iff_eq.mpr c16
            clear c16
            (first | rw [c16b0] | (simp only [i64_w, i32_w]; rw [c16b0]) | skip)
            replace H := Option.bind_eq_some_iff.mp H
            obtain ⟨⟨t130, t131⟩, A170, H⟩ := H
            replace H : (if t131 = 0 then (if t130 = a0 then (tarrylaw01_PackTurns.j1 kj6 a0 a1 t125 t126) else (some false)) else (some false)) = some r := H
            have A17 := Aside0.mk A170
            clear A170
            by_cases c18 : t131 = 0
            · rw [if_pos c18] at H
              have c18b0 : (t131 == 0) = true := beq_iff_eq.mpr c18
              have c18b1 : (t131 != 0) = false := bne_eq_false_iff_eq.mpr c18
              clear c18
              by_cases c19 : t130 = a0
              · rw [if_pos c19] at H
                have c19b0 : (t130 == a0) = true := beq_iff_eq.mpr c19
                have c19b1 : (t130 != a0) = false := bne_eq_false_iff_eq.mpr c19
                clear c19
                have H' := Aside0.mk H
                clear H
                go_wp2_with (first | ((with_reducible refine gate_callee (f := 14) rfl ?_); refine goesL_ (some 71) rfl rfl Try.func14 (by kernel_rfl) rfl #[.int .i64 t121, .int .i64 (wrap64 (-a1))] rfl (by (try simp only [List.map_toArray, List.map_cons, List.map_nil]); first | done | rfl | (simp only [List.length_drop, List.length_take]; rfl)) ?_; (with_reducible refine (pack_Add.calls kj6 t121 (wrap64 (-a1)) t130 t131 _ A17.out).mono ?_); rintro e w' ⟨rfl, ⟨nd, rfl⟩⟩; refine ⟨_, rfl, ?_⟩))
                go_meet
                case rel => exact ⟨_, H', ⟨by have := HJ6.out; first | omega | exact Nat.le_refl _⟩, ⟨by repeat (first | (with_reducible first | exact HB.out | apply below_alloc | apply pw_below_drewN | apply below_drew1) | exact HB.out)⟩⟩
              · rw [if_neg c19] at H
                have c19b0 : (t130 == a0) = false := beq_eq_false_iff_ne.mpr c19
                have c19b1 : (t130 != a0) = true := bne_iff_ne.mpr c19
                obtain rfl := Option.some.inj H
                go_wp2_with (first | ((with_reducible refine gate_callee (f := 14) rfl ?_); refine goesL_ (some 71) rfl rfl Try.func14 (by kernel_rfl) rfl #[.int .i64 t121, .int .i64 (wrap64 (-a1))] rfl (by (try simp only [List.map_toArray, List.map_cons, List.map_nil]); first | done | rfl | (simp only [List.length_drop, List.length_take]; rfl)) ?_; (with_reducible refine (pack_Add.calls kj6 t121 (wrap64 (-a1)) t130 t131 _ A17.out).mono ?_); rintro e w' ⟨rfl, ⟨nd, rfl⟩⟩; refine ⟨_, rfl, ?_⟩))
                go_ret
                exact ⟨by first | rfl | (simp [errW_none, errW_some] <;> rfl) | (simp [*, errW_none, errW_some] <;> rfl), by repeat (first | (with_reducible first | exact HB.out | apply below_alloc | apply pw_below_drewN | apply below_drew1) | exact HB.out)⟩
            · rw [if_neg c18] at H
              have c18b0 : (t131 == 0) = false := beq_eq_false_iff_ne.mpr c18
              have c18b1 : (t131 != 0) = true := bne_iff_ne.mpr c18
              obtain rfl := Option.some.inj H
              go_wp2_with (first | ((with_reducible refine gate_callee (f := 14) rfl ?_); refine goesL_ (some 71) rfl rfl Try.func14 (by kernel_rfl) rfl #[.int .i64 t121, .int .i64 (wrap64 (-a1))] rfl (by (try simp only [List.map_toArray, List.map_cons, List.map_nil]); first | done | rfl | (simp only [List.length_drop, List.length_take]; rfl)) ?_; (with_reducible refine (pack_Add.calls kj6 t121 (wrap64 (-a1)) t130 t131 _ A17.out).mono ?_); rintro e w' ⟨rfl, ⟨nd, rfl⟩⟩; refine ⟨_, rfl, ?_⟩))
              go_ret
              exact ⟨by first | rfl | (simp [errW_none, errW_some] <;> rfl) | (simp [*, errW_none, errW_some] <;> rfl), by repeat (first | (with_reducible first | exact HB.out | apply below_alloc | apply pw_below_drewN | apply below_drew1) | exact HB.out)⟩
          · rw [if_neg c16] at H
            have c16b0 : (t122 == 0) = false := beq_eq_false_iff_ne.mpr c16
            have c16b1 : (t122 != 0) = true := bne_iff_ne.mpr c16
            (first | rw [c16b0] | (simp only [i64_w, i32_w]; rw [c16b0]) | skip)
            have H' := Aside0.mk H
            clear H
            go_wp2
            go_meet
            case rel => exact ⟨_, H', ⟨by have := HJ6.out; first | omega | exact Nat.le_refl _⟩, ⟨by repeat (first | (with_reducible first | exact HB.out | apply below_alloc | apply pw_below_drewN | apply below_drew1) | exact HB.out)⟩⟩
        case rest =>
          clear HC15
          try clear c1
          try clear p2
          try clear c5
          try clear p6
          try clear c8
          try clear c8b0
          try clear c8b1
          try clear c9
          try clear c9b0
          try clear c9b1
          try clear c10
          try clear c10b0
          try clear c10b1
          try clear c11
          try clear c11b0
          try clear c11b1
          try clear c14
          try clear c15
          try clear c16
          try clear c16b0
          try clear c16b1
          try clear c18
          try clear c18b0
          try clear c18b1
          try clear c19
          try clear c19b0
          try clear c19b1
          try clear p2
          obtain ⟨kq, HA, HJ14, HB⟩ := hcut
          cases kq with
          | zero => exact absurd HA.out (by simp [tarrylaw01_PackTurns.j1])
          | succ kj14 =>
            have H := HA.out
            clear HA
            simp only [tarrylaw01_PackTurns.j1] at H
            have HC20 := Aside0.mk H
            clear H
            go_upto_region 11 with (fail)
            go_cut [93] (fun v93 wc => ∃ (kq : Nat) (x93_19 : Bool), v93 = .bool x93_19 ∧ Aside0 (tarrylaw01_PackTurns.j2 kq a0 x93_19 = some r) ∧ Aside0 (kq ≤ kj14) ∧ Aside0 (Below w.heap.size w wc))
            case first =>
              have H := HC20.out
              clear HC20
              by_cases c21 : t126 = 0
              · rw [if_pos c21] at H
                have c21b0 : (t126 == 0) = true := beq_iff_eq.mpr c21
                have c21b1 : (t126 != 0) = false := bne_eq_false_iff_eq.mpr c21
                clear c21
                (first | rw [c21b0] | (simp only [i64_w, i32_w]; rw [c21b0]) | skip)
                by_cases c22 : a1 = 0
                · rw [if_pos c22] at H
                  have c22b0 : (a1 == 0) = true := beq_iff_eq.mpr c22
                  have c22b1 : (a1 != 0) = false := bne_eq_false_iff_eq.mpr c22
                  clear c22
                  have H' := Aside0.mk H
                  clear H
                  go_wp2
                  go_meet
                  case rel => exact ⟨_, (false), (by first | rfl | (simp; done) | (simp [*]; done)), H', ⟨by have := HJ6.out; have := HJ14.out; first | omega | exact Nat.le_refl _⟩, ⟨by repeat (first | (with_reducible first | exact HB.out | apply below_alloc | apply pw_below_drewN | apply below_drew1) | exact HB.out)⟩⟩
                · rw [if_neg c22] at H
                  have c22b0 : (a1 == 0) = false := beq_eq_false_iff_ne.mpr c22
                  have c22b1 : (a1 != 0) = true := bne_iff_ne.mpr c22
                  have H' := Aside0.mk H
                  clear H
                  go_wp2
                  go_meet
                  case rel => exact ⟨_, (((wrap64 (Int.tdiv t125 a1)) != a0)), (by first | rfl | (simp; done) | (simp [*]; done)), H', ⟨by have := HJ6.out; have := HJ14.out; first | omega | exact Nat.le_refl _⟩, ⟨by repeat (first | (with_reducible first | exact HB.out | apply below_alloc | apply pw_below_drewN | apply below_drew1) | exact HB.out)⟩⟩
              · rw [if_neg c21] at H
                have c21b0 : (t126 == 0) = false := beq_eq_false_iff_ne.mpr c21
                have c21b1 : (t126 != 0) = true := bne_iff_ne.mpr c21
                (first | rw [c21b0] | (simp only [i64_w, i32_w]; rw [c21b0]) | skip)
                have H' := Aside0.mk H
                clear H
                go_wp2
                go_meet
                case rel => exact ⟨_, (false), (by first | rfl | (simp; done) | (simp [*]; done)), H', ⟨by have := HJ6.out; have := HJ14.out; first | omega | exact Nat.le_refl _⟩, ⟨by repeat (first | (with_reducible first | exact HB.out | apply below_alloc | apply pw_below_drewN | apply below_drew1) | exact HB.out)⟩⟩
            case rest =>
              clear HC20
              try clear c1
              try clear c2
              try clear p2
              try clear c5
              try clear p6
              try clear c8
              try clear c8b0
              try clear c8b1
              try clear c9
              try clear c9b0
              try clear c9b1
              try clear c10
              try clear c10b0
              try clear c10b1
              try clear c11
              try clear c11b0
              try clear c11b1
              try clear c14
              try clear c15
              try clear c16
              try clear c16b0
              try clear c16b1
              try clear c18
              try clear c18b0
              try clear c18b1
              try clear c19
              try clear c19b0
              try clear c19b1
              try clear c21
              try clear c21b0
              try clear c21b1
              try clear c22
              try clear c22b0
              try clear c22b1
              try clear p2
              try clear p6
              obtain ⟨kq, x93_19, rfl, HA, HJ19, HB⟩ := hcut
              cases kq with
              | zero => exact absurd HA.out (by simp [tarrylaw01_PackTurns.j2])
              | succ kj19 =>
                have H := HA.out
                clear HA
                simp only [tarrylaw01_PackTurns.j2] at H
                by_cases c23 : x93_19 = true
                · subst c23
                  have H1 : (some false) = some r := by rw [if_pos rfl] at H; exact H
                  clear H
                  have H := H1
                  clear H1
                  obtain rfl := Option.some.inj H
                  go_wp2
                  go_ret
                  exact ⟨by first | rfl | (simp [errW_none, errW_some] <;> rfl) | (simp [*, errW_none, errW_some] <;> rfl), by repeat (first | (with_reducible first | exact HB.out | apply below_alloc | apply pw_below_drewN | apply below_drew1) | exact HB.out)⟩
                · replace c23 := Bool.eq_false_iff.mpr c23
                  subst c23
                  have H1 : ((pack_Number.f kj19 a0).bind fun bt132 => ((pack_Number.f kj19 (wrap64 (-a0))).bind fun bt134 => (if ((bt132.2 == 0) == (bt134.2 == 0)) = true then (if (wrap64 ((bt132.1.size : Int) - (bt134.1.size : Int))) ≤ 1 then (some (decide ((wrap64 ((bt134.1.size : Int) - (bt132.1.size : Int))) ≤ 1))) else (some false)) else (some false)))) = some r := by rw [if_neg (show ¬ (false = true) by decide)] at H; exact H
                  clear H
                  have H := H1
                  clear H1
                  replace H := Option.bind_eq_some_iff.mp H
                  obtain ⟨⟨t132, t133⟩, A240, H⟩ := H
                  replace H : ((pack_Number.f kj19 (wrap64 (-a0))).bind fun bt134 => (if ((t133 == 0) == (bt134.2 == 0)) = true then (if (wrap64 ((t132.size : Int) - (bt134.1.size : Int))) ≤ 1 then (some (decide ((wrap64 ((bt134.1.size : Int) - (t132.size : Int))) ≤ 1))) else (some false)) else (some false))) = some r := H
                  have A24 := Aside0.mk A240
                  clear A240
                  replace H := Option.bind_eq_some_iff.mp H
                  obtain ⟨⟨t134, t135⟩, A250, H⟩ := H
                  replace H : (if ((t133 == 0) == (t135 == 0)) = true then (if (wrap64 ((t132.size : Int) - (t134.size : Int))) ≤ 1 then (some (decide ((wrap64 ((t134.size : Int) - (t132.size : Int))) ≤ 1))) else (some false)) else (some false)) = some r := H
                  have A25 := Aside0.mk A250
                  clear A250
                  by_cases c26 : ((t133 == 0) == (t135 == 0)) = true
                  · rw [if_pos c26] at H
                    have c26b0 : ((t133 == 0) == (t135 == 0)) = true := c26
                    (try (have c26b1 : decide ((t133 == 0) = (t135 == 0)) = true := by simpa using c26))
                    (try (have c26b2 : ((t133 == 0) == (t135 == 0)) = true := by simpa using c26))
                    clear c26
                    by_cases c27 : (wrap64 ((t132.size : Int) - (t134.size : Int))) ≤ 1
                    · rw [if_pos c27] at H
                      have c27b0 : decide ((wrap64 ((t132.size : Int) - (t134.size : Int))) ≤ 1) = true := decide_eq_true c27
                      clear c27
                      obtain rfl := Option.some.inj H
                      go_wp2_with (first | ((with_reducible refine gate_callee (f := 8) rfl ?_); refine goesL_ (some 96) rfl rfl Try.func8 (by kernel_rfl) rfl #[.int .i64 a0] rfl (by (try simp only [List.map_toArray, List.map_cons, List.map_nil]); first | done | rfl | (simp only [List.length_drop, List.length_take]; rfl)) ?_; (with_reducible refine (pack_Number.calls kj19 a0 t132 t133 _ A24.out).mono ?_); rintro e w28 ⟨rfl, hb⟩; refine ⟨_, rfl, ?_⟩; have n0_ := Aside0.mk (below_step (by repeat (first | (with_reducible first | exact HB.out | apply below_alloc | apply pw_below_drewN | apply below_drew1) | exact HB.out)) hb); clear HB; have HB := n0_; clear n0_; (try clear hb); (try clear hb2); (try clear hk); (try clear hi)) | ((with_reducible refine gate_callee (f := 8) rfl ?_); refine goesL_ (some 102) rfl rfl Try.func8 (by kernel_rfl) rfl #[.int .i64 (wrap64 (-a0))] rfl (by (try simp only [List.map_toArray, List.map_cons, List.map_nil]); first | done | rfl | (simp only [List.length_drop, List.length_take]; rfl)) ?_; (with_reducible refine (pack_Number.calls kj19 (wrap64 (-a0)) t134 t135 _ A25.out).mono ?_); rintro e w29 ⟨rfl, hb⟩; refine ⟨_, rfl, ?_⟩; have n0_ := Aside0.mk (below_step (by repeat (first | (with_reducible first | exact HB.out | apply below_alloc | apply pw_below_drewN | apply below_drew1) | exact HB.out)) hb); clear HB; have HB := n0_; clear n0_; (try clear hb); (try clear hb2); (try clear hk); (try clear hi)))
                      go_ret
                      exact ⟨by first | rfl | (simp [errW_none, errW_some] <;> rfl) | (simp [*, errW_none, errW_some] <;> rfl), by repeat (first | (with_reducible first | exact HB.out | apply below_alloc | apply pw_below_drewN | apply below_drew1) | exact HB.out)⟩
                    · rw [if_neg c27] at H
                      have c27b0 : decide ((wrap64 ((t132.size : Int) - (t134.size : Int))) ≤ 1) = false := decide_eq_false c27
                      clear c27
                      obtain rfl := Option.some.inj H
                      go_wp2_with (first | ((with_reducible refine gate_callee (f := 8) rfl ?_); refine goesL_ (some 96) rfl rfl Try.func8 (by kernel_rfl) rfl #[.int .i64 a0] rfl (by (try simp only [List.map_toArray, List.map_cons, List.map_nil]); first | done | rfl | (simp only [List.length_drop, List.length_take]; rfl)) ?_; (with_reducible refine (pack_Number.calls kj19 a0 t132 t133 _ A24.out).mono ?_); rintro e w30 ⟨rfl, hb⟩; refine ⟨_, rfl, ?_⟩; have n0_ := Aside0.mk (below_step (by repeat (first | (with_reducible first | exact HB.out | apply below_alloc | apply pw_below_drewN | apply below_drew1) | exact HB.out)) hb); clear HB; have HB := n0_; clear n0_; (try clear hb); (try clear hb2); (try clear hk); (try clear hi)) | ((with_reducible refine gate_callee (f := 8) rfl ?_); refine goesL_ (some 102) rfl rfl Try.func8 (by kernel_rfl) rfl #[.int .i64 (wrap64 (-a0))] rfl (by (try simp only [List.map_toArray, List.map_cons, List.map_nil]); first | done | rfl | (simp only [List.length_drop, List.length_take]; rfl)) ?_; (with_reducible refine (pack_Number.calls kj19 (wrap64 (-a0)) t134 t135 _ A25.out).mono ?_); rintro e w31 ⟨rfl, hb⟩; refine ⟨_, rfl, ?_⟩; have n0_ := Aside0.mk (below_step (by repeat (first | (with_reducible first | exact HB.out | apply below_alloc | apply pw_below_drewN | apply below_drew1) | exact HB.out)) hb); clear HB; have HB := n0_; clear n0_; (try clear hb); (try clear hb2); (try clear hk); (try clear hi)))
                      go_ret
                      exact ⟨by first | rfl | (simp [errW_none, errW_some] <;> rfl) | (simp [*, errW_none, errW_some] <;> rfl), by repeat (first | (with_reducible first | exact HB.out | apply below_alloc | apply pw_below_drewN | apply below_drew1) | exact HB.out)⟩
                  · rw [if_neg c26] at H
                    have c26b0 : ((t133 == 0) == (t135 == 0)) = false := by simpa using c26
                    (try (have c26b1 : decide ((t133 == 0) = (t135 == 0)) = false := by simpa using c26))
                    (try (have c26b2 : ((t133 == 0) == (t135 == 0)) = false := by simpa using c26))
                    (try (have c26b3 : ¬ ((t133 == 0) = (t135 == 0)) := by simpa using c26))
                    clear c26
                    obtain rfl := Option.some.inj H
                    go_wp2_with (first | ((with_reducible refine gate_callee (f := 8) rfl ?_); refine goesL_ (some 96) rfl rfl Try.func8 (by kernel_rfl) rfl #[.int .i64 a0] rfl (by (try simp only [List.map_toArray, List.map_cons, List.map_nil]); first | done | rfl | (simp only [List.length_drop, List.length_take]; rfl)) ?_; (with_reducible refine (pack_Number.calls kj19 a0 t132 t133 _ A24.out).mono ?_); rintro e w32 ⟨rfl, hb⟩; refine ⟨_, rfl, ?_⟩; have n0_ := Aside0.mk (below_step (by repeat (first | (with_reducible first | exact HB.out | apply below_alloc | apply pw_below_drewN | apply below_drew1) | exact HB.out)) hb); clear HB; have HB := n0_; clear n0_; (try clear hb); (try clear hb2); (try clear hk); (try clear hi)) | ((with_reducible refine gate_callee (f := 8) rfl ?_); refine goesL_ (some 102) rfl rfl Try.func8 (by kernel_rfl) rfl #[.int .i64 (wrap64 (-a0))] rfl (by (try simp only [List.map_toArray, List.map_cons, List.map_nil]); first | done | rfl | (simp only [List.length_drop, List.length_take]; rfl)) ?_; (with_reducible refine (pack_Number.calls kj19 (wrap64 (-a0)) t134 t135 _ A25.out).mono ?_); rintro e w33 ⟨rfl, hb⟩; refine ⟨_, rfl, ?_⟩; have n0_ := Aside0.mk (below_step (by repeat (first | (with_reducible first | exact HB.out | apply below_alloc | apply pw_below_drewN | apply below_drew1) | exact HB.out)) hb); clear HB; have HB := n0_; clear n0_; (try clear hb); (try clear hb2); (try clear hk); (try clear hi)))
                    go_ret
                    exact ⟨by first | rfl | (simp [errW_none, errW_some] <;> rfl) | (simp [*, errW_none, errW_some] <;> rfl), by repeat (first | (with_reducible first | exact HB.out | apply below_alloc | apply pw_below_drewN | apply below_drew1) | exact HB.out)⟩

/-- THE ONE PURE STATEMENT of tarrylaw01_PackTurns: yours. -/
def tarrylaw01_PackTurns.Pure : Prop := ∀ (a0 : Int) (a1 : Int), (Lit.int .i64 a0).wf = true → (Lit.int .i64 a1).wf = true → ∃ k, tarrylaw01_PackTurns.f k a0 a1 = some true
theorem tarrylaw01_PackTurns.walk (P : tarrylaw01_PackTurns.Pure) (a0 : Int) (a1 : Int) (w : World) (w0 : (Lit.int .i64 a0).wf = true) (w1 : (Lit.int .i64 a1).wf = true) :
    Calls Try.prog 5 #[.int .i64 a0, .int .i64 a1] w fun e w' => e = .returned (.bool true) ∧ Below w.heap.size w w' := by
  obtain ⟨k, h⟩ := P a0 a1 w0 w1
  refine (tarrylaw01_PackTurns.calls k a0 a1 true w h).mono ?_
  rintro e w' ⟨rfl, hd⟩
  exact ⟨rfl, hd⟩

end Go.Proofs.Ytacenfolbmdpoaa.PPackTurns
