-- PRINTED BY print.sh 35421559b90ae4d0a3588c463048766b98c2df88dd9212a6774a882060cdf62d: not written by this session
import Derived.Test.YtacenfolbmdpoaaPPackSumsx0
import Derived.Test.YtacenfolbmdpoaaPPackSumsx1
namespace Go.Proofs.Ytacenfolbmdpoaa.PPackSums
open Go.RowKit Go.Proofs.YtacenfolbmdpoaaW.PrintWords Go.Proofs.YtacenfolbmdpoaaW.PrintLast Go.Proofs.YtacenfolbmdpoaaW.PrintMore
attribute [local go_sem] max2_int min2_int max_two min_two max_three min_three max_four min_four   -- for this text's walks alone
set_option linter.unusedVariables false
set_option linter.unusedSimpArgs false

/-! ### tarryref01_Times: function 16 -/
mutual
def tarryref01_Times.j0 : Nat → Int → Int → Bool → Option (Int × Bool)
  | 0, _, _, _ => none
  | k + 1, x0, x1, x6 => if x0 < 0 then (tarryref01_Times.j1 k (wrap64 (-x0)) x1 x6) else (tarryref01_Times.j1 k x0 x1 x6)
def tarryref01_Times.j1 : Nat → Int → Int → Bool → Option (Int × Bool)
  | 0, _, _, _ => none
  | k + 1, x0, x1, x6 => if x1 < 0 then (tarryref01_Times.j2 k x0 (wrap64 (-x1)) x6) else (tarryref01_Times.j2 k x0 x1 x6)
def tarryref01_Times.j2 : Nat → Int → Int → Bool → Option (Int × Bool)
  | 0, _, _, _ => none
  | k + 1, x0, x1, x6 => tarryref01_Times.l0 k x0 x1 x6 0
def tarryref01_Times.l0 : Nat → Int → Int → Bool → Int → Option (Int × Bool)
  | 0, _, _, _, _ => none
  | k + 1, x0, x1, x6, x7 => if x1 > 0 then (if (Int.tmod x1 2) = 1 then ((tarryref01_May.f (wrap64 (x7 + x0))).bind fun t121 => (if t121 = true then (if (wrap64 (Int.tdiv x1 2)) > 0 then ((tarryref01_May.f (wrap64 (2 * x0))).bind fun t122 => (if t122 = true then (tarryref01_Times.l0 k (wrap64 (2 * x0)) (wrap64 (Int.tdiv x1 2)) x6 (wrap64 (x7 + x0))) else (some (0, false)))) else (tarryref01_Times.l0 k (wrap64 (2 * x0)) (wrap64 (Int.tdiv x1 2)) x6 (wrap64 (x7 + x0)))) else (some (0, false)))) else (if (wrap64 (Int.tdiv x1 2)) > 0 then ((tarryref01_May.f (wrap64 (2 * x0))).bind fun t123 => (if t123 = true then (tarryref01_Times.l0 k (wrap64 (2 * x0)) (wrap64 (Int.tdiv x1 2)) x6 x7) else (some (0, false)))) else (tarryref01_Times.l0 k (wrap64 (2 * x0)) (wrap64 (Int.tdiv x1 2)) x6 x7))) else (if x6 = true then (some (wrap64 (-x7), true)) else (some (x7, true)))
end
def tarryref01_Times.f (k : Nat) (a0 : Int) (a1 : Int) : Option (Int × Bool) := if a0 < 0 then (if a1 > 0 then (tarryref01_Times.j0 k a0 a1 true) else (if a0 > 0 then (tarryref01_Times.j0 k a0 a1 (decide (a1 < 0))) else (tarryref01_Times.j0 k a0 a1 false))) else (if a0 > 0 then (tarryref01_Times.j0 k a0 a1 (decide (a1 < 0))) else (tarryref01_Times.j0 k a0 a1 false))
theorem tarryref01_Times.mono_l : ∀ k, (∀ y0 y1 y2, LeO (tarryref01_Times.j0 k y0 y1 y2) (tarryref01_Times.j0 (k + 1) y0 y1 y2)) ∧ (∀ y0 y1 y2, LeO (tarryref01_Times.j1 k y0 y1 y2) (tarryref01_Times.j1 (k + 1) y0 y1 y2)) ∧ (∀ y0 y1 y2, LeO (tarryref01_Times.j2 k y0 y1 y2) (tarryref01_Times.j2 (k + 1) y0 y1 y2)) ∧ (∀ y0 y1 y2 y3, LeO (tarryref01_Times.l0 k y0 y1 y2 y3) (tarryref01_Times.l0 (k + 1) y0 y1 y2 y3))
  | 0 => ⟨fun _ _ _ r h => by simp [tarryref01_Times.j0] at h, fun _ _ _ r h => by simp [tarryref01_Times.j1] at h, fun _ _ _ r h => by simp [tarryref01_Times.j2] at h, fun _ _ _ _ r h => by simp [tarryref01_Times.l0] at h⟩
  | k + 1 => by
    obtain ⟨ih0, ih1, ih2, ih3⟩ := tarryref01_Times.mono_l k
    refine ⟨?_, ?_, ?_, ?_⟩
    · intro y0 y1 y2
      unfold tarryref01_Times.j0
      repeat' first
      | (with_reducible exact ih0 _ _ _)
      | (with_reducible exact ih1 _ _ _)
      | (with_reducible exact ih2 _ _ _)
      | (with_reducible exact ih3 _ _ _ _)
      | (with_reducible exact LeO.refl _)
      | (with_reducible exact LeO.none _)
      | (with_reducible refine LeO.ite ?_ ?_)
      | (with_reducible refine LeO.bind ?_ (fun _ => ?_))
      | exact ih0 _ _ _
      | exact ih1 _ _ _
      | exact ih2 _ _ _
      | exact ih3 _ _ _ _
      | exact LeO.none _
      | refine LeO.ite ?_ ?_
      | refine LeO.bind ?_ (fun _ => ?_)
    · intro y0 y1 y2
      unfold tarryref01_Times.j1
      repeat' first
      | (with_reducible exact ih0 _ _ _)
      | (with_reducible exact ih1 _ _ _)
      | (with_reducible exact ih2 _ _ _)
      | (with_reducible exact ih3 _ _ _ _)
      | (with_reducible exact LeO.refl _)
      | (with_reducible exact LeO.none _)
      | (with_reducible refine LeO.ite ?_ ?_)
      | (with_reducible refine LeO.bind ?_ (fun _ => ?_))
      | exact ih0 _ _ _
      | exact ih1 _ _ _
      | exact ih2 _ _ _
      | exact ih3 _ _ _ _
      | exact LeO.none _
      | refine LeO.ite ?_ ?_
      | refine LeO.bind ?_ (fun _ => ?_)
    · intro y0 y1 y2
      unfold tarryref01_Times.j2
      repeat' first
      | (with_reducible exact ih0 _ _ _)
      | (with_reducible exact ih1 _ _ _)
      | (with_reducible exact ih2 _ _ _)
      | (with_reducible exact ih3 _ _ _ _)
      | (with_reducible exact LeO.refl _)
      | (with_reducible exact LeO.none _)
      | (with_reducible refine LeO.ite ?_ ?_)
      | (with_reducible refine LeO.bind ?_ (fun _ => ?_))
      | exact ih0 _ _ _
      | exact ih1 _ _ _
      | exact ih2 _ _ _
      | exact ih3 _ _ _ _
      | exact LeO.none _
      | refine LeO.ite ?_ ?_
      | refine LeO.bind ?_ (fun _ => ?_)
    · intro y0 y1 y2 y3
      unfold tarryref01_Times.l0
      repeat' first
      | (with_reducible exact ih0 _ _ _)
      | (with_reducible exact ih1 _ _ _)
      | (with_reducible exact ih2 _ _ _)
      | (with_reducible exact ih3 _ _ _ _)
      | (with_reducible exact LeO.refl _)
      | (with_reducible exact LeO.none _)
      | (with_reducible refine LeO.ite ?_ ?_)
      | (with_reducible refine LeO.bind ?_ (fun _ => ?_))
      | exact ih0 _ _ _
      | exact ih1 _ _ _
      | exact ih2 _ _ _
      | exact ih3 _ _ _ _
      | exact LeO.none _
      | refine LeO.ite ?_ ?_
      | refine LeO.bind ?_ (fun _ => ?_)
theorem tarryref01_Times.mono : ∀ a0 a1 k, LeO (tarryref01_Times.f k a0 a1) (tarryref01_Times.f (k + 1) a0 a1) := by
  intro a0 a1 k
  obtain ⟨ih0, ih1, ih2, ih3⟩ := tarryref01_Times.mono_l k
  unfold tarryref01_Times.f
  repeat' first
      | (with_reducible exact ih0 _ _ _)
      | (with_reducible exact ih1 _ _ _)
      | (with_reducible exact ih2 _ _ _)
      | (with_reducible exact ih3 _ _ _ _)
      | (with_reducible exact LeO.refl _)
      | (with_reducible exact LeO.none _)
      | (with_reducible refine LeO.ite ?_ ?_)
      | (with_reducible refine LeO.bind ?_ (fun _ => ?_))
      | exact ih0 _ _ _
      | exact ih1 _ _ _
      | exact ih2 _ _ _
      | exact ih3 _ _ _ _
      | exact LeO.none _
      | refine LeO.ite ?_ ?_
      | refine LeO.bind ?_ (fun _ => ?_)
set_option maxHeartbeats 8000000 in
set_option maxRecDepth 100000 in
theorem tarryref01_Times.calls (k : Nat) (a0 : Int) (a1 : Int) (r1 : Int) (r2 : Bool) (w : World) (h : tarryref01_Times.f k a0 a1 = some (r1, r2)) :
    Calls Try.prog 16 #[.int .i64 a0, .int .i64 a1] w fun e w' => e = .returned (.tuple #[.int .i64 r1, .bool r2]) ∧ Drawn0 w w' := by
  have H : (if a0 < 0 then (if a1 > 0 then (tarryref01_Times.j0 k a0 a1 true) else (if a0 > 0 then (tarryref01_Times.j0 k a0 a1 (decide (a1 < 0))) else (tarryref01_Times.j0 k a0 a1 false))) else (if a0 > 0 then (tarryref01_Times.j0 k a0 a1 (decide (a1 < 0))) else (tarryref01_Times.j0 k a0 a1 false))) = some (r1, r2) := h
  clear h
  have HC3 := Aside0.mk H
  clear H
  go_enter Try.func16, Try.ntmps16
  go_upto_region 1 with (fail)
  go_cut [6] (fun v6 wc => ∃ (kq : Nat) (x6_2 : Bool), v6 = .bool x6_2 ∧ Aside0 (tarryref01_Times.j0 kq a0 a1 x6_2 = some (r1, r2)) ∧ Aside0 (kq ≤ k) ∧ Drawn0 w wc)
  case first =>
    have H := HC3.out
    clear HC3
    by_cases c4 : a0 < 0
    · rw [if_pos c4] at H
      have c4b0 : decide (a0 < 0) = true := decide_eq_true c4
      clear c4
      (first | rw [c4b0] | (simp only [i64_w, i32_w]; rw [c4b0]) | skip)
      by_cases c5 : a1 > 0
      · rw [if_pos c5] at H
        have c5b0 : decide (0 < a1) = true := decide_eq_true c5
        clear c5
        have H' := Aside0.mk H
        clear H
        go_wp2
        go_meet
        case rel => exact ⟨_, (true), (by first | rfl | (simp; done) | (simp [*]; done)), H', ⟨by first | omega | exact Nat.le_refl _⟩, by repeat (first | exact Drawn0.refl _ | apply Drawn0.step)⟩
      · rw [if_neg c5] at H
        have c5b0 : decide (0 < a1) = false := decide_eq_false c5
        clear c5
        by_cases c6 : a0 > 0
        · rw [if_pos c6] at H
          have c6b0 : decide (0 < a0) = true := decide_eq_true c6
          clear c6
          have H' := Aside0.mk H
          clear H
          go_wp2
          go_meet
          case rel => exact ⟨_, (decide (a1 < 0)), (by first | rfl | (simp; done) | (simp [*]; done)), H', ⟨by first | omega | exact Nat.le_refl _⟩, by repeat (first | exact Drawn0.refl _ | apply Drawn0.step)⟩
        · rw [if_neg c6] at H
          have c6b0 : decide (0 < a0) = false := decide_eq_false c6
          clear c6
          have H' := Aside0.mk H
          clear H
          go_wp2
          go_meet
          case rel => exact ⟨_, (false), (by first | rfl | (simp; done) | (simp [*]; done)), H', ⟨by first | omega | exact Nat.le_refl _⟩, by repeat (first | exact Drawn0.refl _ | apply Drawn0.step)⟩
    · rw [if_neg c4] at H
      have c4b0 : decide (a0 < 0) = false := decide_eq_false c4
      clear c4
      (first | rw [c4b0] | (simp only [i64_w, i32_w]; rw [c4b0]) | skip)
      by_cases c7 : a0 > 0
      · rw [if_pos c7] at H
        have c7b0 : decide (0 < a0) = true := decide_eq_true c7
        clear c7
        have H' := Aside0.mk H
        clear H
        go_wp2
        go_meet
        case rel => exact ⟨_, (decide (a1 < 0)), (by first | rfl | (simp; done) | (simp [*]; done)), H', ⟨by first | omega | exact Nat.le_refl _⟩, by repeat (first | exact Drawn0.refl _ | apply Drawn0.step)⟩
      · rw [if_neg c7] at H
        have c7b0 : decide (0 < a0) = false := decide_eq_false c7
        clear c7
        have H' := Aside0.mk H
        clear H
        go_wp2
        go_meet
        case rel => exact ⟨_, (false), (by first | rfl | (simp; done) | (simp [*]; done)), H', ⟨by first | omega | exact Nat.le_refl _⟩, by repeat (first | exact Drawn0.refl _ | apply Drawn0.step)⟩
  case rest =>
    clear HC3
    try clear c1
    try clear p2
    try clear c4
    try clear c4b0
    try clear c5
    try clear c5b0
    try clear c6
    try clear c6b0
    try clear c7
    try clear c7b0
    obtain ⟨kq, x6_2, rfl, HA, HJ2, ⟨mc2, rfl⟩⟩ := hcut
    cases kq with
    | zero => exact absurd HA.out (by simp [tarryref01_Times.j0])
    | succ kj2 =>
      have H := HA.out
      clear HA
      simp only [tarryref01_Times.j0] at H
      have HC8 := Aside0.mk H
      clear H
      go_upto_if 23 with (fail)
      go_cut [0] (fun v0 wc => ∃ (kq : Nat) (x0_7 : Int), v0 = .int .i64 x0_7 ∧ Aside0 (tarryref01_Times.j1 kq x0_7 a1 x6_2 = some (r1, r2)) ∧ Aside0 (kq ≤ kj2) ∧ Drawn0 w wc)
      case first =>
        have H := HC8.out
        clear HC8
        by_cases c9 : a0 < 0
        · rw [if_pos c9] at H
          have c9b0 : decide (a0 < 0) = true := decide_eq_true c9
          clear c9
          (first | rw [c9b0] | (simp only [i64_w, i32_w]; rw [c9b0]) | skip)
          have H' := Aside0.mk H
          clear H
          go_wp2
          go_meet
          case rel => exact ⟨_, (wrap64 (-a0)), (by first | rfl | (simp; done) | (simp [*]; done)), H', ⟨by have := HJ2.out; first | omega | exact Nat.le_refl _⟩, by repeat (first | exact Drawn0.refl _ | apply Drawn0.step)⟩
        · rw [if_neg c9] at H
          have c9b0 : decide (a0 < 0) = false := decide_eq_false c9
          clear c9
          (first | rw [c9b0] | (simp only [i64_w, i32_w]; rw [c9b0]) | skip)
          have H' := Aside0.mk H
          clear H
          go_wp2
          go_meet
          case rel => exact ⟨_, (a0), (by first | rfl | (simp; done) | (simp [*]; done)), H', ⟨by have := HJ2.out; first | omega | exact Nat.le_refl _⟩, by repeat (first | exact Drawn0.refl _ | apply Drawn0.step)⟩
      case rest =>
        clear HC8
        try clear c1
        try clear c2
        try clear p2
        try clear c4
        try clear c4b0
        try clear c5
        try clear c5b0
        try clear c6
        try clear c6b0
        try clear p6
        try clear c7
        try clear c7b0
        try clear c9
        try clear c9b0
        try clear p2
        obtain ⟨kq, x0_7, rfl, HA, HJ7, ⟨mc7, rfl⟩⟩ := hcut
        cases kq with
        | zero => exact absurd HA.out (by simp [tarryref01_Times.j1])
        | succ kj7 =>
          have H := HA.out
          clear HA
          simp only [tarryref01_Times.j1] at H
          have HC10 := Aside0.mk H
          clear H
          go_upto_if 27 with (fail)
          go_cut [1] (fun v1 wc => ∃ (kq : Nat) (x1_9 : Int), v1 = .int .i64 x1_9 ∧ Aside0 (tarryref01_Times.j2 kq x0_7 x1_9 x6_2 = some (r1, r2)) ∧ Aside0 (kq ≤ kj7) ∧ Drawn0 w wc)
          case first =>
            have H := HC10.out
            clear HC10
            by_cases c11 : a1 < 0
            · rw [if_pos c11] at H
              have c11b0 : decide (a1 < 0) = true := decide_eq_true c11
              clear c11
              (first | rw [c11b0] | (simp only [i64_w, i32_w]; rw [c11b0]) | skip)
              have H' := Aside0.mk H
              clear H
              go_wp2
              go_meet
              case rel => exact ⟨_, (wrap64 (-a1)), (by first | rfl | (simp; done) | (simp [*]; done)), H', ⟨by have := HJ2.out; have := HJ7.out; first | omega | exact Nat.le_refl _⟩, by repeat (first | exact Drawn0.refl _ | apply Drawn0.step)⟩
            · rw [if_neg c11] at H
              have c11b0 : decide (a1 < 0) = false := decide_eq_false c11
              clear c11
              (first | rw [c11b0] | (simp only [i64_w, i32_w]; rw [c11b0]) | skip)
              have H' := Aside0.mk H
              clear H
              go_wp2
              go_meet
              case rel => exact ⟨_, (a1), (by first | rfl | (simp; done) | (simp [*]; done)), H', ⟨by have := HJ2.out; have := HJ7.out; first | omega | exact Nat.le_refl _⟩, by repeat (first | exact Drawn0.refl _ | apply Drawn0.step)⟩
          case rest =>
            clear HC10
            try clear c1
            try clear c2
            try clear p2
            try clear c4
            try clear c4b0
            try clear c5
            try clear c5b0
            try clear c6
            try clear c6b0
            try clear p6
            try clear c7
            try clear c7b0
            try clear c9
            try clear c9b0
            try clear c11
            try clear c11b0
            try clear p2
            try clear p6
            obtain ⟨kq, x1_9, rfl, HA, HJ9, ⟨mc9, rfl⟩⟩ := hcut
            cases kq with
            | zero => exact absurd HA.out (by simp [tarryref01_Times.j2])
            | succ kj9 =>
              have H := HA.out
              clear HA
              simp only [tarryref01_Times.j2] at H
              have H' := Aside0.mk H
              clear H
              go_wp2
              go_loopg [0, 1, 7] kj9 (fun kq v0 v1 v7 w' => ∃ (x0_4 : Int) (x1_4 : Int) (x7_4 : Int), v0 = .int .i64 x0_4 ∧ v1 = .int .i64 x1_4 ∧ v7 = .int .i64 x7_4 ∧ Aside0 (tarryref01_Times.l0 kq x0_4 x1_4 x6_2 x7_4 = some (r1, r2)) ∧ Aside0 (kq ≤ kj9) ∧ Drawn0 w w')
              case atStart => exact ⟨(x0_7), (x1_9), (0), (by first | rfl | (simp; done) | (simp [*]; done)), (by first | rfl | (simp; done) | (simp [*]; done)), (by first | rfl | (simp; done) | (simp [*]; done)), H', ⟨Nat.le_refl _⟩, by repeat (first | exact Drawn0.refl _ | apply Drawn0.step)⟩
              case round =>
                clear H'
                try clear c1
                try clear c2
                try clear p2
                try clear c4
                try clear c4b0
                try clear c5
                try clear c5b0
                try clear c6
                try clear c6b0
                try clear p6
                try clear c7
                try clear c7b0
                try clear c9
                try clear c9b0
                try clear c11
                try clear c11b0
                try clear p2
                try clear p6
                obtain ⟨x0_4, x1_4, x7_4, rfl, rfl, rfl, HA, HK4, ⟨m4, rfl⟩⟩ := hrel
                cases gk with
                | zero => exact absurd HA.out (by simp [tarryref01_Times.l0])
                | succ k4 =>
                  have H := HA.out
                  clear HA
                  simp only [tarryref01_Times.l0] at H
                  by_cases c12 : x1_4 > 0
                  · rw [if_pos c12] at H
                    have c12b0 : decide (0 < x1_4) = true := decide_eq_true c12
                    clear c12
                    by_cases c13 : (Int.tmod x1_4 2) = 1
                    · rw [if_pos c13] at H
                      have c13b0 : ((Int.tmod x1_4 2) == 1) = true := beq_iff_eq.mpr c13
                      have c13b1 : ((Int.tmod x1_4 2) != 1) = false := bne_eq_false_iff_eq.mpr c13
                      clear c13
                      replace H := Option.bind_eq_some_iff.mp H
                      obtain ⟨t121, A140, H⟩ := H
                      replace H : (if t121 = true then (if (wrap64 (Int.tdiv x1_4 2)) > 0 then ((tarryref01_May.f (wrap64 (2 * x0_4))).bind fun t122 => (if t122 = true then (tarryref01_Times.l0 k4 (wrap64 (2 * x0_4)) (wrap64 (Int.tdiv x1_4 2)) x6_2 (wrap64 (x7_4 + x0_4))) else (some (0, false)))) else (tarryref01_Times.l0 k4 (wrap64 (2 * x0_4)) (wrap64 (Int.tdiv x1_4 2)) x6_2 (wrap64 (x7_4 + x0_4)))) else (some (0, false))) = some (r1, r2) := H
                      have A14 := Aside0.mk A140
                      clear A140
                      by_cases c15 : t121 = true
                      · subst c15
                        have H1 : (if (wrap64 (Int.tdiv x1_4 2)) > 0 then ((tarryref01_May.f (wrap64 (2 * x0_4))).bind fun t122 => (if t122 = true then (tarryref01_Times.l0 k4 (wrap64 (2 * x0_4)) (wrap64 (Int.tdiv x1_4 2)) x6_2 (wrap64 (x7_4 + x0_4))) else (some (0, false)))) else (tarryref01_Times.l0 k4 (wrap64 (2 * x0_4)) (wrap64 (Int.tdiv x1_4 2)) x6_2 (wrap64 (x7_4 + x0_4)))) = some (r1, r2) := by rw [if_pos rfl] at H; exact H
                        clear H
                        have H := H1
                        clear H1
                        by_cases c16 : (wrap64 (Int.tdiv x1_4 2)) > 0
                        · rw [if_pos c16] at H
                          have c16b0 : decide (0 < (wrap64 (Int.tdiv x1_4 2))) = true := decide_eq_true c16
                          clear c16
                          replace H := Option.bind_eq_some_iff.mp H
                          obtain ⟨t122, A170, H⟩ := H
                          replace H : (if t122 = true then (tarryref01_Times.l0 k4 (wrap64 (2 * x0_4)) (wrap64 (Int.tdiv x1_4 2)) x6_2 (wrap64 (x7_4 + x0_4))) else (some (0, false))) = some (r1, r2) := H
                          have A17 := Aside0.mk A170
                          clear A170
                          by_cases c18 : t122 = true
                          · subst c18
                            have H1 : (tarryref01_Times.l0 k4 (wrap64 (2 * x0_4)) (wrap64 (Int.tdiv x1_4 2)) x6_2 (wrap64 (x7_4 + x0_4))) = some (r1, r2) := by rw [if_pos rfl] at H; exact H
                            clear H
                            have H := H1
                            clear H1
                            have H' := Aside0.mk H
                            clear H
                            go_wp2_with (first | ((with_reducible refine gate_callee (f := 12) rfl ?_); refine goesL_ (some 39) rfl rfl Try.func12 (by kernel_rfl) rfl #[.int .i64 (wrap64 (x7_4 + x0_4))] rfl (by (try simp only [List.map_toArray, List.map_cons, List.map_nil]); first | done | rfl | (simp only [List.length_drop, List.length_take]; rfl)) ?_; (with_reducible refine (tarryref01_May.calls (wrap64 (x7_4 + x0_4)) true _ A14.out).mono ?_); rintro e w' ⟨rfl, ⟨nd, rfl⟩⟩; refine ⟨_, rfl, ?_⟩) | (go_at_call 12; (with_reducible refine (tarryref01_May.calls (wrap64 (2 * x0_4)) true _ A17.out).mono ?_); rintro e w' ⟨rfl, ⟨nd, rfl⟩⟩))
                            go_roundg k4
                            case measure => have := HJ2.out; have := HJ7.out; have := HJ9.out; have := HK4.out; omega
                            case rel => exact ⟨(wrap64 (2 * x0_4)), (wrap64 (Int.tdiv x1_4 2)), (wrap64 (x7_4 + x0_4)), (by first | rfl | (simp; done) | (simp [*]; done)), (by first | rfl | (simp; done) | (simp [*]; done)), (by first | rfl | (simp; done) | (simp [*]; done)), H', ⟨by have := HJ2.out; have := HJ7.out; have := HJ9.out; have := HK4.out; omega⟩, by repeat (first | exact Drawn0.refl _ | apply Drawn0.step)⟩
                          · replace c18 := Bool.eq_false_iff.mpr c18
                            subst c18
                            have H1 : (some (0, false)) = some (r1, r2) := by rw [if_neg (show ¬ (false = true) by decide)] at H; exact H
                            clear H
                            have H := H1
                            clear H1
                            simp only [Option.some.injEq, Prod.mk.injEq] at H
                            obtain ⟨rfl, rfl⟩ := H
                            go_wp2_with (first | ((with_reducible refine gate_callee (f := 12) rfl ?_); refine goesL_ (some 39) rfl rfl Try.func12 (by kernel_rfl) rfl #[.int .i64 (wrap64 (x7_4 + x0_4))] rfl (by (try simp only [List.map_toArray, List.map_cons, List.map_nil]); first | done | rfl | (simp only [List.length_drop, List.length_take]; rfl)) ?_; (with_reducible refine (tarryref01_May.calls (wrap64 (x7_4 + x0_4)) true _ A14.out).mono ?_); rintro e w' ⟨rfl, ⟨nd, rfl⟩⟩; refine ⟨_, rfl, ?_⟩) | (go_at_call 12; (with_reducible refine (tarryref01_May.calls (wrap64 (2 * x0_4)) false _ A17.out).mono ?_); rintro e w' ⟨rfl, ⟨nd, rfl⟩⟩))
                            go_ret2
                            exact ⟨by first | rfl | (simp; done) | (simp [*]; done), by repeat (first | exact Drawn0.refl _ | apply Drawn0.step)⟩
                        · rw [if_neg c16] at H
                          have c16b0 : decide (0 < (wrap64 (Int.tdiv x1_4 2))) = false := decide_eq_false c16
                          clear c16
                          have H' := Aside0.mk H
                          clear H
                          go_wp2_with (first | ((with_reducible refine gate_callee (f := 12) rfl ?_); refine goesL_ (some 39) rfl rfl Try.func12 (by kernel_rfl) rfl #[.int .i64 (wrap64 (x7_4 + x0_4))] rfl (by (try simp only [List.map_toArray, List.map_cons, List.map_nil]); first | done | rfl | (simp only [List.length_drop, List.length_take]; rfl)) ?_; (with_reducible refine (tarryref01_May.calls (wrap64 (x7_4 + x0_4)) true _ A14.out).mono ?_); rintro e w' ⟨rfl, ⟨nd, rfl⟩⟩; refine ⟨_, rfl, ?_⟩))
                          go_roundg k4
                          case measure => have := HJ2.out; have := HJ7.out; have := HJ9.out; have := HK4.out; omega
                          case rel => exact ⟨(wrap64 (2 * x0_4)), (wrap64 (Int.tdiv x1_4 2)), (wrap64 (x7_4 + x0_4)), (by first | rfl | (simp; done) | (simp [*]; done)), (by first | rfl | (simp; done) | (simp [*]; done)), (by first | rfl | (simp; done) | (simp [*]; done)), H', ⟨by have := HJ2.out; have := HJ7.out; have := HJ9.out; have := HK4.out; omega⟩, by repeat (first | exact Drawn0.refl _ | apply Drawn0.step)⟩
                      · replace c15 := Bool.eq_false_iff.mpr c15
                        subst c15
                        have H1 : (some (0, false)) = some (r1, r2) := by rw [if_neg (show ¬ (false = true) by decide)] at H; exact H
                        clear H
                        have H := H1
                        clear H1
                        simp only [Option.some.injEq, Prod.mk.injEq] at H
                        obtain ⟨rfl, rfl⟩ := H
                        go_wp2_with (first | ((with_reducible refine gate_callee (f := 12) rfl ?_); refine goesL_ (some 39) rfl rfl Try.func12 (by kernel_rfl) rfl #[.int .i64 (wrap64 (x7_4 + x0_4))] rfl (by (try simp only [List.map_toArray, List.map_cons, List.map_nil]); first | done | rfl | (simp only [List.length_drop, List.length_take]; rfl)) ?_; (with_reducible refine (tarryref01_May.calls (wrap64 (x7_4 + x0_4)) false _ A14.out).mono ?_); rintro e w' ⟨rfl, ⟨nd, rfl⟩⟩; refine ⟨_, rfl, ?_⟩))
                        go_ret2
                        exact ⟨by first | rfl | (simp; done) | (simp [*]; done), by repeat (first | exact Drawn0.refl _ | apply Drawn0.step)⟩
                    · rw [if_neg c13] at H
                      have c13b0 : ((Int.tmod x1_4 2) == 1) = false := beq_eq_false_iff_ne.mpr c13
                      have c13b1 : ((Int.tmod x1_4 2) != 1) = true := bne_iff_ne.mpr c13
                      by_cases c19 : (wrap64 (Int.tdiv x1_4 2)) > 0
                      · rw [if_pos c19] at H
                        have c19b0 : decide (0 < (wrap64 (Int.tdiv x1_4 2))) = true := decide_eq_true c19
                        clear c19
                        replace H := Option.bind_eq_some_iff.mp H
                        obtain ⟨t123, A200, H⟩ := H
                        replace H : (if t123 = true then (tarryref01_Times.l0 k4 (wrap64 (2 * x0_4)) (wrap64 (Int.tdiv x1_4 2)) x6_2 x7_4) else (some (0, false))) = some (r1, r2) := H
                        have A20 := Aside0.mk A200
                        clear A200
                        by_cases c21 : t123 = true
                        · subst c21
                          have H1 : (tarryref01_Times.l0 k4 (wrap64 (2 * x0_4)) (wrap64 (Int.tdiv x1_4 2)) x6_2 x7_4) = some (r1, r2) := by rw [if_pos rfl] at H; exact H
                          clear H
                          have H := H1
                          clear H1
                          have H' := Aside0.mk H
                          clear H
                          go_wp2_with (first | (go_at_call 12; (with_reducible refine (tarryref01_May.calls (wrap64 (2 * x0_4)) true _ A20.out).mono ?_); rintro e w' ⟨rfl, ⟨nd, rfl⟩⟩))
                          go_roundg k4
                          case measure => have := HJ2.out; have := HJ7.out; have := HJ9.out; have := HK4.out; omega
                          case rel => exact ⟨(wrap64 (2 * x0_4)), (wrap64 (Int.tdiv x1_4 2)), (x7_4), (by first | rfl | (simp; done) | (simp [*]; done)), (by first | rfl | (simp; done) | (simp [*]; done)), (by first | rfl | (simp; done) | (simp [*]; done)), H', ⟨by have := HJ2.out; have := HJ7.out; have := HJ9.out; have := HK4.out; omega⟩, by repeat (first | exact Drawn0.refl _ | apply Drawn0.step)⟩
                        · replace c21 := Bool.eq_false_iff.mpr c21
                          subst c21
                          have H1 : (some (0, false)) = some (r1, r2) := by rw [if_neg (show ¬ (false = true) by decide)] at H; exact H
                          clear H
                          have H := H1
                          clear H1
                          simp only [Option.some.injEq, Prod.mk.injEq] at H
                          obtain ⟨rfl, rfl⟩ := H
                          go_wp2_with (first | (go_at_call 12; (with_reducible refine (tarryref01_May.calls (wrap64 (2 * x0_4)) false _ A20.out).mono ?_); rintro e w' ⟨rfl, ⟨nd, rfl⟩⟩))
                          go_ret2
                          exact ⟨by first | rfl | (simp; done) | (simp [*]; done), by repeat (first | exact Drawn0.refl _ | apply Drawn0.step)⟩
                      · rw [if_neg c19] at H
                        have c19b0 : decide (0 < (wrap64 (Int.tdiv x1_4 2))) = false := decide_eq_false c19
                        clear c19
                        have H' := Aside0.mk H
                        clear H
                        go_wp2
                        go_roundg k4
                        case measure => have := HJ2.out; have := HJ7.out; have := HJ9.out; have := HK4.out; omega
                        case rel => exact ⟨(wrap64 (2 * x0_4)), (wrap64 (Int.tdiv x1_4 2)), (x7_4), (by first | rfl | (simp; done) | (simp [*]; done)), (by first | rfl | (simp; done) | (simp [*]; done)), (by first | rfl | (simp; done) | (simp [*]; done)), H', ⟨by have := HJ2.out; have := HJ7.out; have := HJ9.out; have := HK4.out; omega⟩, by repeat (first | exact Drawn0.refl _ | apply Drawn0.step)⟩
                  · rw [if_neg c12] at H
                    have c12b0 : decide (0 < x1_4) = false := decide_eq_false c12
                    clear c12
                    by_cases c22 : x6_2 = true
                    · subst c22
                      have H1 : (some (wrap64 (-x7_4), true)) = some (r1, r2) := by rw [if_pos rfl] at H; exact H
                      clear H
                      have H := H1
                      clear H1
                      simp only [Option.some.injEq, Prod.mk.injEq] at H
                      obtain ⟨rfl, rfl⟩ := H
                      go_wp2
                      go_ret2
                      exact ⟨by first | rfl | (simp; done) | (simp [*]; done), by repeat (first | exact Drawn0.refl _ | apply Drawn0.step)⟩
                    · replace c22 := Bool.eq_false_iff.mpr c22
                      subst c22
                      have H1 : (some (x7_4, true)) = some (r1, r2) := by rw [if_neg (show ¬ (false = true) by decide)] at H; exact H
                      clear H
                      have H := H1
                      clear H1
                      simp only [Option.some.injEq, Prod.mk.injEq] at H
                      obtain ⟨rfl, rfl⟩ := H
                      go_wp2
                      go_ret2
                      exact ⟨by first | rfl | (simp; done) | (simp [*]; done), by repeat (first | exact Drawn0.refl _ | apply Drawn0.step)⟩

end Go.Proofs.Ytacenfolbmdpoaa.PPackSums
