-- PRINTED BY print.sh 35421559b90ae4d0a3588c463048766b98c2df88dd9212a6774a882060cdf62d: not written by this session
import Derived.Test.YtacenfolbmdpoaaPPackNumbersx0
namespace Go.Proofs.Ytacenfolbmdpoaa.PPackNumbers
open Go.RowKit Go.Proofs.YtacenfolbmdpoaaW.PrintWords Go.Proofs.YtacenfolbmdpoaaW.PrintLast Go.Proofs.YtacenfolbmdpoaaW.PrintMore
attribute [local go_sem] max2_int min2_int max_two min_two max_three min_three max_four min_four   -- for this text's walks alone
set_option linter.unusedVariables false
set_option linter.unusedSimpArgs false

/-! ### pack_may: function 24 -/
def pack_may.f (a0 : Int) : Option (Bool) := if a0 ≥ (-1152921504606846976) then (some (decide (a0 ≤ 1152921504606846976))) else (some false)
set_option maxHeartbeats 8000000 in
set_option maxRecDepth 100000 in
theorem pack_may.calls (a0 : Int) (r : Bool) (w : World) (h : pack_may.f a0 = some r) :
    Calls Try.prog 24 #[.int .i64 a0] w fun e w' => e = .returned (.bool r) ∧ Drawn0 w w' := by
  have H : (if a0 ≥ (-1152921504606846976) then (some (decide (a0 ≤ 1152921504606846976))) else (some false)) = some r := h
  clear h
  by_cases c2 : a0 ≥ (-1152921504606846976)
  · rw [if_pos c2] at H
    have c2b0 : decide ((-1152921504606846976) ≤ a0) = true := decide_eq_true c2
    clear c2
    obtain rfl := Option.some.inj H
    go_enter Try.func24, Try.ntmps24
    go_wp2
    go_ret
    exact ⟨by first | rfl | (simp; done) | (simp [*]; done), by repeat (first | exact Drawn0.refl _ | apply Drawn0.step)⟩
  · rw [if_neg c2] at H
    have c2b0 : decide ((-1152921504606846976) ≤ a0) = false := decide_eq_false c2
    clear c2
    obtain rfl := Option.some.inj H
    go_enter Try.func24, Try.ntmps24
    go_wp2
    go_ret
    exact ⟨by first | rfl | (simp; done) | (simp [*]; done), by repeat (first | exact Drawn0.refl _ | apply Drawn0.step)⟩

/-! ### pack_Number: function 8 -/
mutual
def pack_Number.j0 : Nat → Int → Option (ByteArray × Int)
  | 0, _ => none
  | k + 1, x4 => pack_Number.l0 k x4 ([] : List Int)
def pack_Number.l0 : Nat → Int → List Int → Option (ByteArray × Int)
  | 0, _, _ => none
  | k + 1, x4, x5 => if x4 ≥ 128 then (if x5.length < 140737488355328 then (pack_Number.l0 k (wrap64 (Int.tdiv x4 128)) (x5 ++ [(wrap64 ((Int.tmod x4 128) + 128)) % 256])) else (none)) else (if x5.length < 140737488355328 then (some (strOfNums (x5 ++ [(x4) % 256]), 0)) else (none))
end
def pack_Number.f (k : Nat) (a0 : Int) : Option (ByteArray × Int) := (pack_may.f a0).bind fun t101 => (if t101 = true then (if a0 < 0 then (pack_Number.j0 k (wrap64 ((wrap64 ((-2) * a0)) - 1))) else (pack_Number.j0 k (wrap64 (2 * a0)))) else (some ((⟨#[]⟩ : ByteArray), 1)))
theorem pack_Number.mono_l : ∀ k, (∀ y0, LeO (pack_Number.j0 k y0) (pack_Number.j0 (k + 1) y0)) ∧ (∀ y0 y1, LeO (pack_Number.l0 k y0 y1) (pack_Number.l0 (k + 1) y0 y1))
  | 0 => ⟨fun _ r h => by simp [pack_Number.j0] at h, fun _ _ r h => by simp [pack_Number.l0] at h⟩
  | k + 1 => by
    obtain ⟨ih0, ih1⟩ := pack_Number.mono_l k
    refine ⟨?_, ?_⟩
    · intro y0
      unfold pack_Number.j0
      repeat' first
      | (with_reducible exact ih0 _)
      | (with_reducible exact ih1 _ _)
      | (with_reducible exact LeO.refl _)
      | (with_reducible exact LeO.none _)
      | (with_reducible refine LeO.ite ?_ ?_)
      | (with_reducible refine LeO.bind ?_ (fun _ => ?_))
      | exact ih0 _
      | exact ih1 _ _
      | exact LeO.none _
      | refine LeO.ite ?_ ?_
      | refine LeO.bind ?_ (fun _ => ?_)
    · intro y0 y1
      unfold pack_Number.l0
      repeat' first
      | (with_reducible exact ih0 _)
      | (with_reducible exact ih1 _ _)
      | (with_reducible exact LeO.refl _)
      | (with_reducible exact LeO.none _)
      | (with_reducible refine LeO.ite ?_ ?_)
      | (with_reducible refine LeO.bind ?_ (fun _ => ?_))
      | exact ih0 _
      | exact ih1 _ _
      | exact LeO.none _
      | refine LeO.ite ?_ ?_
      | refine LeO.bind ?_ (fun _ => ?_)
theorem pack_Number.mono : ∀ a0 k, LeO (pack_Number.f k a0) (pack_Number.f (k + 1) a0) := by
  intro a0 k
  obtain ⟨ih0, ih1⟩ := pack_Number.mono_l k
  unfold pack_Number.f
  repeat' first
      | (with_reducible exact ih0 _)
      | (with_reducible exact ih1 _ _)
      | (with_reducible exact LeO.refl _)
      | (with_reducible exact LeO.none _)
      | (with_reducible refine LeO.ite ?_ ?_)
      | (with_reducible refine LeO.bind ?_ (fun _ => ?_))
      | exact ih0 _
      | exact ih1 _ _
      | exact LeO.none _
      | refine LeO.ite ?_ ?_
      | refine LeO.bind ?_ (fun _ => ?_)
set_option maxHeartbeats 8000000 in
set_option maxRecDepth 100000 in
theorem pack_Number.calls (k : Nat) (a0 : Int) (r1 : ByteArray) (r2 : Int) (w : World) (h : pack_Number.f k a0 = some (r1, r2)) :
    Calls Try.prog 8 #[.int .i64 a0] w fun e w' => e = .returned (.tuple #[.string r1, .int .i64 r2]) ∧ Below w.heap.size w w' := by
  have HB := Aside0.mk (Below.refl w.heap.size w)
  have H : ((pack_may.f a0).bind fun t101 => (if t101 = true then (if a0 < 0 then (pack_Number.j0 k (wrap64 ((wrap64 ((-2) * a0)) - 1))) else (pack_Number.j0 k (wrap64 (2 * a0)))) else (some ((⟨#[]⟩ : ByteArray), 1)))) = some (r1, r2) := h
  clear h
  replace H := Option.bind_eq_some_iff.mp H
  obtain ⟨t101, A20, H⟩ := H
  replace H : (if t101 = true then (if a0 < 0 then (pack_Number.j0 k (wrap64 ((wrap64 ((-2) * a0)) - 1))) else (pack_Number.j0 k (wrap64 (2 * a0)))) else (some ((⟨#[]⟩ : ByteArray), 1))) = some (r1, r2) := H
  have A2 := Aside0.mk A20
  clear A20
  by_cases c3 : t101 = true
  · subst c3
    have H1 : (if a0 < 0 then (pack_Number.j0 k (wrap64 ((wrap64 ((-2) * a0)) - 1))) else (pack_Number.j0 k (wrap64 (2 * a0)))) = some (r1, r2) := by rw [if_pos rfl] at H; exact H
    clear H
    have H := H1
    clear H1
    have HC4 := Aside0.mk H
    clear H
    go_enter Try.func8, Try.ntmps8
    go_upto_if 12 with (first | ((with_reducible refine gate_callee (f := 24) rfl ?_); refine goesL_ (some 7) rfl rfl Try.func24 (by kernel_rfl) rfl #[.int .i64 a0] rfl (by (try simp only [List.map_toArray, List.map_cons, List.map_nil]); first | done | rfl | (simp only [List.length_drop, List.length_take]; rfl)) ?_; (with_reducible refine (pack_may.calls a0 true _ A2.out).mono ?_); rintro e w' ⟨rfl, ⟨nd, rfl⟩⟩; refine ⟨_, rfl, ?_⟩))
    (try simp only [Act.put, List.setIfInBounds_toArray, List.set_cons_zero, List.set_cons_succ])
    go_cut [4] (fun v4 wc => ∃ (kq : Nat) (x4_3 : Int), v4 = .int .i64 x4_3 ∧ Aside0 (pack_Number.j0 kq x4_3 = some (r1, r2)) ∧ Aside0 (kq ≤ k) ∧ Aside0 (Below w.heap.size w wc))
    case first =>
      have H := HC4.out
      clear HC4
      by_cases c5 : a0 < 0
      · rw [if_pos c5] at H
        have c5b0 : decide (a0 < 0) = true := decide_eq_true c5
        clear c5
        (first | rw [c5b0] | (simp only [i64_w, i32_w]; rw [c5b0]) | skip)
        have H' := Aside0.mk H
        clear H
        go_wp2
        go_meet
        case rel => exact ⟨_, (wrap64 ((wrap64 ((-2) * a0)) - 1)), (by first | rfl | (simp; done) | (simp [*]; done)), H', ⟨by first | omega | exact Nat.le_refl _⟩, ⟨by repeat (first | (with_reducible first | exact HB.out | apply below_alloc | apply pw_below_drewN | apply below_drew1) | exact HB.out)⟩⟩
      · rw [if_neg c5] at H
        have c5b0 : decide (a0 < 0) = false := decide_eq_false c5
        clear c5
        (first | rw [c5b0] | (simp only [i64_w, i32_w]; rw [c5b0]) | skip)
        have H' := Aside0.mk H
        clear H
        go_wp2
        go_meet
        case rel => exact ⟨_, (wrap64 (2 * a0)), (by first | rfl | (simp; done) | (simp [*]; done)), H', ⟨by first | omega | exact Nat.le_refl _⟩, ⟨by repeat (first | (with_reducible first | exact HB.out | apply below_alloc | apply pw_below_drewN | apply below_drew1) | exact HB.out)⟩⟩
    case rest =>
      clear HC4
      try clear c2
      try clear p2
      try clear c3
      try clear c5
      try clear c5b0
      obtain ⟨kq, x4_3, rfl, HA, HJ3, HB⟩ := hcut
      cases kq with
      | zero => exact absurd HA.out (by simp [pack_Number.j0])
      | succ kj3 =>
        have H := HA.out
        clear HA
        simp only [pack_Number.j0] at H
        have H' := Aside0.mk H
        clear H
        go_wp2
        go_loopg [4, 5] kj3 (fun kq v4 v5 w' => ∃ (x4_2 : Int) (x5_2 : List Int), v4 = .int .i64 x4_2 ∧ Aside0 (pack_Number.l0 kq x4_2 x5_2 = some (r1, r2)) ∧ Aside0 (kq ≤ kj3) ∧ Aside0 (Kd.R (Kd.int .u8) 5 w' w.heap.size (fun _ => True) v5 x5_2) ∧ Aside0 (Below w.heap.size w w'))
        case atStart => exact ⟨(x4_3), (([] : List Int)), (by first | rfl | (simp; done) | (simp [*]; done)), H', ⟨Nat.le_refl _⟩, ⟨by first | exact Kd.R_nil _ _ _ _ _ | exact Kd.N_nil _ _ _ _ _ | exact Kd.V_nil _ _ _ _ _ | exact Kd.Q_nil _ _ _ _ _ | exact Kd.S_nil _ _ _ _ _⟩, ⟨by repeat (first | (with_reducible first | exact HB.out | apply below_alloc | apply pw_below_drewN | apply below_drew1) | exact HB.out)⟩⟩
        case round =>
          clear H'
          try clear c2
          try clear p2
          try clear c3
          try clear c5
          try clear c5b0
          try clear p2
          obtain ⟨x4_2, x5_2, rfl, HA, HK2, HO_5, HB⟩ := hrel
          cases gk with
          | zero => exact absurd HA.out (by simp [pack_Number.l0])
          | succ k2 =>
            have H := HA.out
            clear HA
            simp only [pack_Number.l0] at H
            by_cases c6 : x4_2 ≥ 128
            · rw [if_pos c6] at H
              have c6b0 : decide (128 ≤ x4_2) = true := decide_eq_true c6
              clear c6
              by_cases c7 : x5_2.length < 140737488355328
              · rw [if_pos c7] at H
                have LMc7 := Aside0.mk c7
                clear c7
                obtain ⟨y102, hy102⟩ : ∃ y_ : List Int, y_ = (x5_2 ++ [(wrap64 ((Int.tmod x4_2 128) + 128)) % 256]) := ⟨_, rfl⟩
                replace H : (pack_Number.l0 k2 (wrap64 (Int.tdiv x4_2 128)) y102) = some (r1, r2) := by first | (rw [hy102]; with_reducible exact H) | (have H2_ := (Option.bind_some _ _).symm.trans H; rw [hy102]; with_reducible exact H2_) | (have H2_ := (Option.bind_some _ _).symm.trans H; with_reducible exact H2_) | with_reducible exact H | (rw [hy102]; exact H) | exact H
                have Ny102 := Aside0.mk hy102
                clear hy102
                have H' := Aside0.mk H
                clear H
                go_wp2_with (first | ((with_reducible refine gate_builtin (b := .append) (xs := #[.tmp 20, .tmp 25]) rfl ?_); at_builtin; refine Kd.R_append (Kd.int .u8) (w0 := w) w.heap.size rfl (.tmp 20) (.tmp 25) 49 5 (.int .u8 0) 1 rfl Try.underlying49 info5 rfl (by decide) (by omega) u5 x5_2 ((wrap64 ((Int.tmod x4_2 128) + 128)) % 256) [.int .u8 ((wrap64 ((Int.tmod x4_2 128) + 128)) % 256)] (fun _ => True) (fun _ => False) rfl rfl ?aP (fun _ hk => hk.elim) ?aF ?aO ?aB ?aS ?aL ?_; (case aP => exact rfl); (case aB => exact (by repeat (first | (with_reducible first | exact HB.out | apply below_alloc | apply pw_below_drewN | apply below_drew1) | exact HB.out))); (case aF => exact (fun _ _ => trivial)); (case aO => exact (by (with_reducible repeat (first | apply Kd.R_alloc | apply Kd.R_drewN | apply Kd.R_drew)); exact HO_5.out)); (case aS => exact (below_size (by repeat (first | (with_reducible first | exact HB.out | apply below_alloc | apply pw_below_drewN | apply below_drew1) | exact HB.out)))); (case aL => have := LMc7.out; omega); intro v103 w8 ho hb hg hat; rw [← Ny102.out] at ho; have n0_ := Aside0.mk (hb); have n1_ := Aside0.mk (ho); clear HB; clear HO_5; have HB := n0_; have HO104 := n1_; clear n0_ n1_; clear ho hb hg hat))
                go_roundg k2
                case measure => have := HJ3.out; have := HK2.out; omega
                case rel => exact ⟨(wrap64 (Int.tdiv x4_2 128)), (y102), (by first | rfl | (simp; done) | (simp [*]; done)), H', ⟨by have := HJ3.out; have := HK2.out; omega⟩, ⟨by (with_reducible repeat (first | apply Kd.R_alloc | apply Kd.R_drewN | apply Kd.R_drew)); exact HO104.out⟩, ⟨by repeat (first | (with_reducible first | exact HB.out | apply below_alloc | apply pw_below_drewN | apply below_drew1) | exact HB.out)⟩⟩
              · rw [if_neg c7] at H
                exact absurd H (by simp)
            · rw [if_neg c6] at H
              have c6b0 : decide (128 ≤ x4_2) = false := decide_eq_false c6
              clear c6
              by_cases c9 : x5_2.length < 140737488355328
              · rw [if_pos c9] at H
                have LMc9 := Aside0.mk c9
                clear c9
                obtain ⟨y105, hy105⟩ : ∃ y_ : List Int, y_ = (x5_2 ++ [(x4_2) % 256]) := ⟨_, rfl⟩
                replace H : (some (strOfNums y105, 0)) = some (r1, r2) := by first | (rw [hy105]; with_reducible exact H) | (have H2_ := (Option.bind_some _ _).symm.trans H; rw [hy105]; with_reducible exact H2_) | (have H2_ := (Option.bind_some _ _).symm.trans H; with_reducible exact H2_) | with_reducible exact H | (rw [hy105]; exact H) | exact H
                have Ny105 := Aside0.mk hy105
                clear hy105
                simp only [Option.some.injEq, Prod.mk.injEq] at H
                obtain ⟨rfl, rfl⟩ := H
                go_wp2_with (first | ((with_reducible refine gate_builtin (b := .append) (xs := #[.tmp 27, .tmp 30]) rfl ?_); at_builtin; refine Kd.R_append (Kd.int .u8) (w0 := w) w.heap.size rfl (.tmp 27) (.tmp 30) 49 5 (.int .u8 0) 1 rfl Try.underlying49 info5 rfl (by decide) (by omega) u5 x5_2 ((x4_2) % 256) [.int .u8 ((x4_2) % 256)] (fun _ => True) (fun _ => False) rfl rfl ?aP (fun _ hk => hk.elim) ?aF ?aO ?aB ?aS ?aL ?_; (case aP => exact rfl); (case aB => exact (by repeat (first | (with_reducible first | exact HB.out | apply below_alloc | apply pw_below_drewN | apply below_drew1) | exact HB.out))); (case aF => exact (fun _ _ => trivial)); (case aO => exact (by (with_reducible repeat (first | apply Kd.R_alloc | apply Kd.R_drewN | apply Kd.R_drew)); exact HO_5.out)); (case aS => exact (below_size (by repeat (first | (with_reducible first | exact HB.out | apply below_alloc | apply pw_below_drewN | apply below_drew1) | exact HB.out)))); (case aL => have := LMc9.out; omega); intro v106 w10 ho hb hg hat; rw [← Ny105.out] at ho; have n0_ := Aside0.mk (hb); have n1_ := Aside0.mk (ho); clear HB; clear HO_5; have HB := n0_; have HO107 := n1_; clear n0_ n1_; clear ho hb hg hat; have hcv11 := own_string (P := Try.prog) Try.underlying49 Try.underlying5 Try.underlying9 (Kd.own_of_R HO107.out)))
                go_ret2
                exact ⟨by first | rfl | (simp [errW_none, errW_some] <;> rfl) | (simp [*, errW_none, errW_some] <;> rfl), by repeat (first | (with_reducible first | exact HB.out | apply below_alloc | apply pw_below_drewN | apply below_drew1) | exact HB.out)⟩
              · rw [if_neg c9] at H
                exact absurd H (by simp)
  · replace c3 := Bool.eq_false_iff.mpr c3
    subst c3
    have H1 : (some ((⟨#[]⟩ : ByteArray), 1)) = some (r1, r2) := by rw [if_neg (show ¬ (false = true) by decide)] at H; exact H
    clear H
    have H := H1
    clear H1
    simp only [Option.some.injEq, Prod.mk.injEq] at H
    obtain ⟨rfl, rfl⟩ := H
    go_enter Try.func8, Try.ntmps8
    go_wp2_with (first | ((with_reducible refine gate_callee (f := 24) rfl ?_); refine goesL_ (some 7) rfl rfl Try.func24 (by kernel_rfl) rfl #[.int .i64 a0] rfl (by (try simp only [List.map_toArray, List.map_cons, List.map_nil]); first | done | rfl | (simp only [List.length_drop, List.length_take]; rfl)) ?_; (with_reducible refine (pack_may.calls a0 false _ A2.out).mono ?_); rintro e w' ⟨rfl, ⟨nd, rfl⟩⟩; refine ⟨_, rfl, ?_⟩))
    go_ret2
    exact ⟨by first | rfl | (simp [errW_none, errW_some] <;> rfl) | (simp [*, errW_none, errW_some] <;> rfl), by repeat (first | (with_reducible first | exact HB.out | apply below_alloc | apply pw_below_drewN | apply below_drew1) | exact HB.out)⟩

/-! ### pack_ReadNumber: function 9 -/
def pack_ReadNumber.l0 : Nat → ByteArray → Int → Int → Int → Option (Int × ByteArray × Int)
  | 0, _, _, _, _ => none
  | k + 1, x0, x5, x11, x12 => if x12 < x11 then (if 0 ≤ x12 then (if x12 < (x0.size : Int) then (if 0 ≤ (wrap64 (7 * x12)) then (if (wrap64 (bt x0 x12)) ≥ 128 then (pack_ReadNumber.l0 k x0 (Go.bits .or .i64 x5 (shl .i64 (Int.tmod (wrap64 (bt x0 x12)) 128) (wrap64 (7 * x12)))) x11 (wrap64 (x12 + 1))) else (if (Int.tmod (Go.bits .or .i64 x5 (shl .i64 (Int.tmod (wrap64 (bt x0 x12)) 128) (wrap64 (7 * x12)))) 2) = 1 then (if (wrap64 (bt x0 x12)) = 0 then (if x12 > 0 then (some (0, (⟨#[]⟩ : ByteArray), 5)) else ((pack_may.f (wrap64 ((wrap64 (-(wrap64 (Int.tdiv (Go.bits .or .i64 x5 (shl .i64 (Int.tmod (wrap64 (bt x0 x12)) 128) (wrap64 (7 * x12)))) 2)))) - 1))).bind fun t108 => (if t108 = true then (if 0 ≤ (wrap64 (x12 + 1)) then (if (wrap64 (x12 + 1)) ≤ (x0.size : Int) then (some (wrap64 ((wrap64 (-(wrap64 (Int.tdiv (Go.bits .or .i64 x5 (shl .i64 (Int.tmod (wrap64 (bt x0 x12)) 128) (wrap64 (7 * x12)))) 2)))) - 1), x0.extract ((wrap64 (x12 + 1)) : Int).toNat x0.size, 0)) else (none)) else (none)) else (some (0, (⟨#[]⟩ : ByteArray), 5))))) else ((pack_may.f (wrap64 ((wrap64 (-(wrap64 (Int.tdiv (Go.bits .or .i64 x5 (shl .i64 (Int.tmod (wrap64 (bt x0 x12)) 128) (wrap64 (7 * x12)))) 2)))) - 1))).bind fun t109 => (if t109 = true then (if 0 ≤ (wrap64 (x12 + 1)) then (if (wrap64 (x12 + 1)) ≤ (x0.size : Int) then (some (wrap64 ((wrap64 (-(wrap64 (Int.tdiv (Go.bits .or .i64 x5 (shl .i64 (Int.tmod (wrap64 (bt x0 x12)) 128) (wrap64 (7 * x12)))) 2)))) - 1), x0.extract ((wrap64 (x12 + 1)) : Int).toNat x0.size, 0)) else (none)) else (none)) else (some (0, (⟨#[]⟩ : ByteArray), 5))))) else (if (wrap64 (bt x0 x12)) = 0 then (if x12 > 0 then (some (0, (⟨#[]⟩ : ByteArray), 5)) else ((pack_may.f (wrap64 (Int.tdiv (Go.bits .or .i64 x5 (shl .i64 (Int.tmod (wrap64 (bt x0 x12)) 128) (wrap64 (7 * x12)))) 2))).bind fun t110 => (if t110 = true then (if 0 ≤ (wrap64 (x12 + 1)) then (if (wrap64 (x12 + 1)) ≤ (x0.size : Int) then (some (wrap64 (Int.tdiv (Go.bits .or .i64 x5 (shl .i64 (Int.tmod (wrap64 (bt x0 x12)) 128) (wrap64 (7 * x12)))) 2), x0.extract ((wrap64 (x12 + 1)) : Int).toNat x0.size, 0)) else (none)) else (none)) else (some (0, (⟨#[]⟩ : ByteArray), 5))))) else ((pack_may.f (wrap64 (Int.tdiv (Go.bits .or .i64 x5 (shl .i64 (Int.tmod (wrap64 (bt x0 x12)) 128) (wrap64 (7 * x12)))) 2))).bind fun t111 => (if t111 = true then (if 0 ≤ (wrap64 (x12 + 1)) then (if (wrap64 (x12 + 1)) ≤ (x0.size : Int) then (some (wrap64 (Int.tdiv (Go.bits .or .i64 x5 (shl .i64 (Int.tmod (wrap64 (bt x0 x12)) 128) (wrap64 (7 * x12)))) 2), x0.extract ((wrap64 (x12 + 1)) : Int).toNat x0.size, 0)) else (none)) else (none)) else (some (0, (⟨#[]⟩ : ByteArray), 5))))))) else (none)) else (none)) else (none)) else (if (x0.size : Int) ≥ 9 then (some (0, (⟨#[]⟩ : ByteArray), 3)) else (some (0, (⟨#[]⟩ : ByteArray), 4)))
def pack_ReadNumber.f (k : Nat) (a0 : ByteArray) : Option (Int × ByteArray × Int) := pack_ReadNumber.l0 k a0 0 (mn (a0.size : Int) 9) 0
theorem pack_ReadNumber.mono_l : ∀ k, (∀ y0 y1 y2 y3, LeO (pack_ReadNumber.l0 k y0 y1 y2 y3) (pack_ReadNumber.l0 (k + 1) y0 y1 y2 y3))
  | 0 => fun _ _ _ _ r h => by simp [pack_ReadNumber.l0] at h
  | k + 1 => by
    have ih0 := pack_ReadNumber.mono_l k
    · intro y0 y1 y2 y3
      unfold pack_ReadNumber.l0
      repeat' first
      | (with_reducible exact ih0 _ _ _ _)
      | (with_reducible exact LeO.refl _)
      | (with_reducible exact LeO.none _)
      | (with_reducible refine LeO.ite ?_ ?_)
      | (with_reducible refine LeO.bind ?_ (fun _ => ?_))
      | exact ih0 _ _ _ _
      | exact LeO.none _
      | refine LeO.ite ?_ ?_
      | refine LeO.bind ?_ (fun _ => ?_)
theorem pack_ReadNumber.mono : ∀ a0 k, LeO (pack_ReadNumber.f k a0) (pack_ReadNumber.f (k + 1) a0) := by
  intro a0 k
  have ih0 := pack_ReadNumber.mono_l k
  unfold pack_ReadNumber.f
  repeat' first
      | (with_reducible exact ih0 _ _ _ _)
      | (with_reducible exact LeO.refl _)
      | (with_reducible exact LeO.none _)
      | (with_reducible refine LeO.ite ?_ ?_)
      | (with_reducible refine LeO.bind ?_ (fun _ => ?_))
      | exact ih0 _ _ _ _
      | exact LeO.none _
      | refine LeO.ite ?_ ?_
      | refine LeO.bind ?_ (fun _ => ?_)
set_option maxHeartbeats 8000000 in
set_option maxRecDepth 100000 in
theorem pack_ReadNumber.calls (k : Nat) (a0 : ByteArray) (r1 : Int) (r2 : ByteArray) (r3 : Int) (w : World) (h : pack_ReadNumber.f k a0 = some (r1, r2, r3)) :
    Calls Try.prog 9 #[.string a0] w fun e w' => e = .returned (.tuple #[.int .i64 r1, .string r2, .int .i64 r3]) ∧ Below w.heap.size w w' := by
  have HB := Aside0.mk (Below.refl w.heap.size w)
  have H : (pack_ReadNumber.l0 k a0 0 (mn (a0.size : Int) 9) 0) = some (r1, r2, r3) := h
  clear h
  obtain ⟨ji2, hji2⟩ : ∃ j_ : Int, (mn (a0.size : Int) 9) = j_ := ⟨_, rfl⟩
  replace H : (pack_ReadNumber.l0 k a0 0 ji2 0) = some (r1, r2, r3) := by first | (rw [hji2] at H; exact H) | (simp only [hji2] at H ⊢; exact H)
  (try (have hji2h : ji2 ≤ 9 := by (rw [← hji2]; unfold mn; (repeat' split) <;> omega)))
  (try (have hji2g : ji2 ≤ 64 := by omega))
  (try (have hji2l : 0 ≤ ji2 := by (rw [← hji2]; unfold mn; (repeat' split) <;> omega)))
  (try (have hji2m : 0 ≤ ji2 := by omega))
  have hji2_ : (if 9 < (a0.size : Int) then 9 else (a0.size : Int)) = ji2 := hji2
  have H' := Aside0.mk H
  clear H
  go_enter Try.func9, Try.ntmps9
  go_wp2
  repeat (go_quiet (fail); try go_wp2)
  go_loopg [5, 12] k (fun kq v5 v12 w' => ∃ (x5_1 : Int) (x12_1 : Int), v5 = .int .i64 x5_1 ∧ v12 = .int .i64 x12_1 ∧ Aside0 (pack_ReadNumber.l0 kq a0 x5_1 ji2 x12_1 = some (r1, r2, r3)) ∧ Aside0 (kq ≤ k) ∧ Aside0 (Below w.heap.size w w'))
  case atStart => exact ⟨(0), (0), (by first | rfl | (simp; done) | (simp [*]; done)), (by first | rfl | (simp; done) | (simp [*]; done)), H', ⟨Nat.le_refl _⟩, ⟨by repeat (first | (with_reducible first | exact HB.out | apply below_alloc | apply pw_below_drewN | apply below_drew1) | exact HB.out)⟩⟩
  case round =>
    clear H'
    try clear p2
    obtain ⟨x5_1, x12_1, rfl, rfl, HA, HK1, HB⟩ := hrel
    cases gk with
    | zero => exact absurd HA.out (by simp [pack_ReadNumber.l0])
    | succ k1 =>
      have H := HA.out
      clear HA
      simp only [pack_ReadNumber.l0] at H
      by_cases c3 : x12_1 < ji2
      · rw [if_pos c3] at H
        have c3b0 : decide (x12_1 < ji2) = true := decide_eq_true c3
        clear c3
        by_cases c4 : 0 ≤ x12_1
        · rw [if_pos c4] at H
          have c4b0 : decide (0 ≤ x12_1) = true := decide_eq_true c4
          clear c4
          by_cases c5 : x12_1 < (a0.size : Int)
          · rw [if_pos c5] at H
            have c5b0 : decide (x12_1 < (a0.size : Int)) = true := decide_eq_true c5
            clear c5
            obtain ⟨ji7, hji7⟩ : ∃ j_ : Int, (wrap64 (7 * x12_1)) = j_ := ⟨_, rfl⟩
            replace H : (if 0 ≤ (ji7) then (if (wrap64 (bt a0 x12_1)) ≥ 128 then (pack_ReadNumber.l0 k1 a0 (Go.bits .or .i64 x5_1 (shl .i64 (Int.tmod (wrap64 (bt a0 x12_1)) 128) (ji7))) ji2 (wrap64 (x12_1 + 1))) else (if (Int.tmod (Go.bits .or .i64 x5_1 (shl .i64 (Int.tmod (wrap64 (bt a0 x12_1)) 128) (ji7))) 2) = 1 then (if (wrap64 (bt a0 x12_1)) = 0 then (if x12_1 > 0 then (some (0, (⟨#[]⟩ : ByteArray), 5)) else ((pack_may.f (wrap64 ((wrap64 (-(wrap64 (Int.tdiv (Go.bits .or .i64 x5_1 (shl .i64 (Int.tmod (wrap64 (bt a0 x12_1)) 128) (ji7))) 2)))) - 1))).bind fun t108 => (if t108 = true then (if 0 ≤ (wrap64 (x12_1 + 1)) then (if (wrap64 (x12_1 + 1)) ≤ (a0.size : Int) then (some (wrap64 ((wrap64 (-(wrap64 (Int.tdiv (Go.bits .or .i64 x5_1 (shl .i64 (Int.tmod (wrap64 (bt a0 x12_1)) 128) (ji7))) 2)))) - 1), a0.extract ((wrap64 (x12_1 + 1)) : Int).toNat a0.size, 0)) else (none)) else (none)) else (some (0, (⟨#[]⟩ : ByteArray), 5))))) else ((pack_may.f (wrap64 ((wrap64 (-(wrap64 (Int.tdiv (Go.bits .or .i64 x5_1 (shl .i64 (Int.tmod (wrap64 (bt a0 x12_1)) 128) (ji7))) 2)))) - 1))).bind fun t109 => (if t109 = true then (if 0 ≤ (wrap64 (x12_1 + 1)) then (if (wrap64 (x12_1 + 1)) ≤ (a0.size : Int) then (some (wrap64 ((wrap64 (-(wrap64 (Int.tdiv (Go.bits .or .i64 x5_1 (shl .i64 (Int.tmod (wrap64 (bt a0 x12_1)) 128) (ji7))) 2)))) - 1), a0.extract ((wrap64 (x12_1 + 1)) : Int).toNat a0.size, 0)) else (none)) else (none)) else (some (0, (⟨#[]⟩ : ByteArray), 5))))) else (if (wrap64 (bt a0 x12_1)) = 0 then (if x12_1 > 0 then (some (0, (⟨#[]⟩ : ByteArray), 5)) else ((pack_may.f (wrap64 (Int.tdiv (Go.bits .or .i64 x5_1 (shl .i64 (Int.tmod (wrap64 (bt a0 x12_1)) 128) (ji7))) 2))).bind fun t110 => (if t110 = true then (if 0 ≤ (wrap64 (x12_1 + 1)) then (if (wrap64 (x12_1 + 1)) ≤ (a0.size : Int) then (some (wrap64 (Int.tdiv (Go.bits .or .i64 x5_1 (shl .i64 (Int.tmod (wrap64 (bt a0 x12_1)) 128) (ji7))) 2), a0.extract ((wrap64 (x12_1 + 1)) : Int).toNat a0.size, 0)) else (none)) else (none)) else (some (0, (⟨#[]⟩ : ByteArray), 5))))) else ((pack_may.f (wrap64 (Int.tdiv (Go.bits .or .i64 x5_1 (shl .i64 (Int.tmod (wrap64 (bt a0 x12_1)) 128) (ji7))) 2))).bind fun t111 => (if t111 = true then (if 0 ≤ (wrap64 (x12_1 + 1)) then (if (wrap64 (x12_1 + 1)) ≤ (a0.size : Int) then (some (wrap64 (Int.tdiv (Go.bits .or .i64 x5_1 (shl .i64 (Int.tmod (wrap64 (bt a0 x12_1)) 128) (ji7))) 2), a0.extract ((wrap64 (x12_1 + 1)) : Int).toNat a0.size, 0)) else (none)) else (none)) else (some (0, (⟨#[]⟩ : ByteArray), 5))))))) else (none)) = some (r1, r2, r3) := by first | (rw [hji7] at H; exact H) | (simp only [hji7] at H ⊢; exact H)
            have hji7w : (IntKind.i64.wrap (7 * x12_1)) = ji7 := (i64_w _).trans hji7
            by_cases c8 : 0 ≤ (ji7)
            · rw [if_pos c8] at H
              have c8b0 := eq_true c8
              have c8b1 : decide (0 ≤ (ji7)) = true := decide_eq_true c8
              clear c8
              obtain ⟨ji9, hji9⟩ : ∃ j_ : Int, (shl .i64 (Int.tmod (wrap64 (bt a0 x12_1)) 128) (ji7)) = j_ := ⟨_, rfl⟩
              replace H : (if (wrap64 (bt a0 x12_1)) ≥ 128 then (pack_ReadNumber.l0 k1 a0 (Go.bits .or .i64 x5_1 (ji9)) ji2 (wrap64 (x12_1 + 1))) else (if (Int.tmod (Go.bits .or .i64 x5_1 (ji9)) 2) = 1 then (if (wrap64 (bt a0 x12_1)) = 0 then (if x12_1 > 0 then (some (0, (⟨#[]⟩ : ByteArray), 5)) else ((pack_may.f (wrap64 ((wrap64 (-(wrap64 (Int.tdiv (Go.bits .or .i64 x5_1 (ji9)) 2)))) - 1))).bind fun t108 => (if t108 = true then (if 0 ≤ (wrap64 (x12_1 + 1)) then (if (wrap64 (x12_1 + 1)) ≤ (a0.size : Int) then (some (wrap64 ((wrap64 (-(wrap64 (Int.tdiv (Go.bits .or .i64 x5_1 (ji9)) 2)))) - 1), a0.extract ((wrap64 (x12_1 + 1)) : Int).toNat a0.size, 0)) else (none)) else (none)) else (some (0, (⟨#[]⟩ : ByteArray), 5))))) else ((pack_may.f (wrap64 ((wrap64 (-(wrap64 (Int.tdiv (Go.bits .or .i64 x5_1 (ji9)) 2)))) - 1))).bind fun t109 => (if t109 = true then (if 0 ≤ (wrap64 (x12_1 + 1)) then (if (wrap64 (x12_1 + 1)) ≤ (a0.size : Int) then (some (wrap64 ((wrap64 (-(wrap64 (Int.tdiv (Go.bits .or .i64 x5_1 (ji9)) 2)))) - 1), a0.extract ((wrap64 (x12_1 + 1)) : Int).toNat a0.size, 0)) else (none)) else (none)) else (some (0, (⟨#[]⟩ : ByteArray), 5))))) else (if (wrap64 (bt a0 x12_1)) = 0 then (if x12_1 > 0 then (some (0, (⟨#[]⟩ : ByteArray), 5)) else ((pack_may.f (wrap64 (Int.tdiv (Go.bits .or .i64 x5_1 (ji9)) 2))).bind fun t110 => (if t110 = true then (if 0 ≤ (wrap64 (x12_1 + 1)) then (if (wrap64 (x12_1 + 1)) ≤ (a0.size : Int) then (some (wrap64 (Int.tdiv (Go.bits .or .i64 x5_1 (ji9)) 2), a0.extract ((wrap64 (x12_1 + 1)) : Int).toNat a0.size, 0)) else (none)) else (none)) else (some (0, (⟨#[]⟩ : ByteArray), 5))))) else ((pack_may.f (wrap64 (Int.tdiv (Go.bits .or .i64 x5_1 (ji9)) 2))).bind fun t111 => (if t111 = true then (if 0 ≤ (wrap64 (x12_1 + 1)) then (if (wrap64 (x12_1 + 1)) ≤ (a0.size : Int) then (some (wrap64 (Int.tdiv (Go.bits .or .i64 x5_1 (ji9)) 2), a0.extract ((wrap64 (x12_1 + 1)) : Int).toNat a0.size, 0)) else (none)) else (none)) else (some (0, (⟨#[]⟩ : ByteArray), 5))))))) = some (r1, r2, r3) := by first | (rw [hji9] at H; exact H) | (simp only [hji9] at H ⊢; exact H)
              have hji9_ : (IntKind.i64.wrap ((Int.tmod (wrap64 (bt a0 x12_1)) 128) * 2 ^ min (ji7).toNat 64)) = ji9 := hji9
              have hji9z : (ji7) ≤ 64 → (IntKind.i64.wrap ((Int.tmod (wrap64 (bt a0 x12_1)) 128) * 2 ^ (ji7).toNat)) = ji9 := shl_small hji9
              have hji9y : (wrap64 ((Int.tmod (wrap64 (bt a0 x12_1)) 128) * 2 ^ min (ji7).toNat 64)) = ji9 := (i64_w _).symm.trans hji9_
              have hji9x : (ji7) ≤ 64 → (wrap64 ((Int.tmod (wrap64 (bt a0 x12_1)) 128) * 2 ^ (ji7).toNat)) = ji9 := fun h_ => (i64_w _).symm.trans (hji9z h_)
              by_cases c10 : (wrap64 (bt a0 x12_1)) ≥ 128
              · rw [if_pos c10] at H
                have c10b0 : decide (128 ≤ (wrap64 (bt a0 x12_1))) = true := decide_eq_true c10
                clear c10
                have H' := Aside0.mk H
                clear H
                have p6 : 0 ≤ (x12_1 : Int) := of_decide_eq_true (by first | (with_reducible assumption) | assumption)
                have q6 : x12_1 < (a0.size : Int) := of_decide_eq_true (by first | (with_reducible assumption) | assumption)
                have hx6 := bt_at a0 x12_1
                replace p6 := eq_true p6
                replace q6 := eq_true q6
                go_wp2
                repeat (go_quiet (fail); try go_wp2)
                go_roundg k1
                case measure => have := HK1.out; omega
                case rel => exact ⟨(Go.bits .or .i64 x5_1 (ji9)), (wrap64 (x12_1 + 1)), (by first | rfl | (simp; done) | (simp only [← hji9] <;> (first | rfl | simp)) | (simp [*]; done)), (by first | rfl | (simp; done) | (simp [*]; done)), H', ⟨by have := HK1.out; omega⟩, ⟨by repeat (first | (with_reducible first | exact HB.out | apply below_alloc | apply pw_below_drewN | apply below_drew1) | exact HB.out)⟩⟩
              · rw [if_neg c10] at H
                have c10b0 : decide (128 ≤ (wrap64 (bt a0 x12_1))) = false := decide_eq_false c10
                clear c10
                by_cases c11 : (Int.tmod (Go.bits .or .i64 x5_1 (ji9)) 2) = 1
                · rw [if_pos c11] at H
                  have c11b0 : ((Int.tmod (Go.bits .or .i64 x5_1 (ji9)) 2) == 1) = true := beq_iff_eq.mpr c11
                  have c11b1 : ((Int.tmod (Go.bits .or .i64 x5_1 (ji9)) 2) != 1) = false := bne_eq_false_iff_eq.mpr c11
                  clear c11
                  by_cases c12 : (wrap64 (bt a0 x12_1)) = 0
                  · rw [if_pos c12] at H
                    have c12b0 : ((wrap64 (bt a0 x12_1)) == 0) = true := beq_iff_eq.mpr c12
                    have c12b1 : ((wrap64 (bt a0 x12_1)) != 0) = false := bne_eq_false_iff_eq.mpr c12
                    clear c12
                    by_cases c13 : x12_1 > 0
                    · rw [if_pos c13] at H
                      have c13b0 : decide (0 < x12_1) = true := decide_eq_true c13
                      clear c13
                      simp only [Option.some.injEq, Prod.mk.injEq] at H
                      obtain ⟨rfl, rfl, rfl⟩ := H
                      have p6 : 0 ≤ (x12_1 : Int) := of_decide_eq_true (by first | (with_reducible assumption) | assumption)
                      have q6 : x12_1 < (a0.size : Int) := of_decide_eq_true (by first | (with_reducible assumption) | assumption)
                      have hx6 := bt_at a0 x12_1
                      replace p6 := eq_true p6
                      replace q6 := eq_true q6
                      go_wp2
                      repeat (go_quiet (fail); try go_wp2)
                      go_ret3
                      exact ⟨by first | rfl | (simp [errW_none, errW_some] <;> rfl) | (simp only [← hji2, ← hji7, ← hji9]; first | rfl | (simp [errW_none, errW_some] <;> rfl)) | (simp [*, errW_none, errW_some] <;> rfl), by repeat (first | (with_reducible first | exact HB.out | apply below_alloc | apply pw_below_drewN | apply below_drew1) | exact HB.out)⟩
                    · rw [if_neg c13] at H
                      have c13b0 : decide (0 < x12_1) = false := decide_eq_false c13
                      clear c13
                      replace H := Option.bind_eq_some_iff.mp H
                      obtain ⟨t108, A140, H⟩ := H
                      replace H : (if t108 = true then (if 0 ≤ (wrap64 (x12_1 + 1)) then (if (wrap64 (x12_1 + 1)) ≤ (a0.size : Int) then (some (wrap64 ((wrap64 (-(wrap64 (Int.tdiv (Go.bits .or .i64 x5_1 (ji9)) 2)))) - 1), a0.extract ((wrap64 (x12_1 + 1)) : Int).toNat a0.size, 0)) else (none)) else (none)) else (some (0, (⟨#[]⟩ : ByteArray), 5))) = some (r1, r2, r3) := H
                      have A14 := Aside0.mk A140
                      clear A140
                      by_cases c15 : t108 = true
                      · subst c15
                        have H1 : (if 0 ≤ (wrap64 (x12_1 + 1)) then (if (wrap64 (x12_1 + 1)) ≤ (a0.size : Int) then (some (wrap64 ((wrap64 (-(wrap64 (Int.tdiv (Go.bits .or .i64 x5_1 (ji9)) 2)))) - 1), a0.extract ((wrap64 (x12_1 + 1)) : Int).toNat a0.size, 0)) else (none)) else (none)) = some (r1, r2, r3) := by rw [if_pos rfl] at H; exact H
                        clear H
                        have H := H1
                        clear H1
                        obtain ⟨ji16, hji16⟩ : ∃ j_ : Int, (wrap64 (x12_1 + 1)) = j_ := ⟨_, rfl⟩
                        replace H : (if 0 ≤ (ji16) then (if (ji16) ≤ (a0.size : Int) then (some (wrap64 ((wrap64 (-(wrap64 (Int.tdiv (Go.bits .or .i64 x5_1 (ji9)) 2)))) - 1), a0.extract ((ji16) : Int).toNat a0.size, 0)) else (none)) else (none)) = some (r1, r2, r3) := by first | (rw [hji16] at H; exact H) | (simp only [hji16] at H ⊢; exact H)
                        (try rw [hji16] at A14)
                        have hji16w : (IntKind.i64.wrap (x12_1 + 1)) = ji16 := (i64_w _).trans hji16
                        by_cases c17 : 0 ≤ (ji16)
                        · rw [if_pos c17] at H
                          have c17b0 := eq_true c17
                          have c17b1 : decide (0 ≤ (ji16)) = true := decide_eq_true c17
                          clear c17
                          by_cases c18 : (ji16) ≤ (a0.size : Int)
                          · rw [if_pos c18] at H
                            have c18b0 := eq_true c18
                            have c18b1 : decide ((ji16) ≤ (a0.size : Int)) = true := decide_eq_true c18
                            clear c18
                            simp only [Option.some.injEq, Prod.mk.injEq] at H
                            obtain ⟨rfl, rfl, rfl⟩ := H
                            have p6 : 0 ≤ (x12_1 : Int) := of_decide_eq_true (by first | (with_reducible assumption) | assumption)
                            have q6 : x12_1 < (a0.size : Int) := of_decide_eq_true (by first | (with_reducible assumption) | assumption)
                            have hx6 := bt_at a0 x12_1
                            replace p6 := eq_true p6
                            replace q6 := eq_true q6
                            go_wp2_with (first | (go_at_call 24; (with_reducible refine (pack_may.calls (wrap64 ((wrap64 (-(wrap64 (Int.tdiv (Go.bits .or .i64 x5_1 (ji9)) 2)))) - 1)) true _ A14.out).mono ?_); rintro e w' ⟨rfl, ⟨nd, rfl⟩⟩; (try first | exact ⟨rfl, _, World.drewN_drewN _ _ _⟩ | exact ⟨rfl, _, Eq.trans (World.drewN_drewN _ _ _) (congrArg (World.drewN _) (Nat.add_assoc _ _ _))⟩)))
                            repeat (go_quiet (first | (go_at_call 24; (with_reducible refine (pack_may.calls (wrap64 ((wrap64 (-(wrap64 (Int.tdiv (Go.bits .or .i64 x5_1 (ji9)) 2)))) - 1)) true _ A14.out).mono ?_); rintro e w' ⟨rfl, ⟨nd, rfl⟩⟩; (try first | exact ⟨rfl, _, World.drewN_drewN _ _ _⟩ | exact ⟨rfl, _, Eq.trans (World.drewN_drewN _ _ _) (congrArg (World.drewN _) (Nat.add_assoc _ _ _))⟩))); try go_wp2_with (first | (go_at_call 24; (with_reducible refine (pack_may.calls (wrap64 ((wrap64 (-(wrap64 (Int.tdiv (Go.bits .or .i64 x5_1 (ji9)) 2)))) - 1)) true _ A14.out).mono ?_); rintro e w' ⟨rfl, ⟨nd, rfl⟩⟩; (try first | exact ⟨rfl, _, World.drewN_drewN _ _ _⟩ | exact ⟨rfl, _, Eq.trans (World.drewN_drewN _ _ _) (congrArg (World.drewN _) (Nat.add_assoc _ _ _))⟩))))
                            go_ret3
                            exact ⟨by first | rfl | (simp [errW_none, errW_some] <;> rfl) | (simp only [← hji2, ← hji7, ← hji9, ← hji16]; first | rfl | (simp [errW_none, errW_some] <;> rfl)) | (simp [*, errW_none, errW_some] <;> rfl), by repeat (first | (with_reducible first | exact HB.out | apply below_alloc | apply pw_below_drewN | apply below_drew1) | exact HB.out)⟩
                          · rw [if_neg c18] at H
                            exact absurd H (by simp)
                        · rw [if_neg c17] at H
                          exact absurd H (by simp)
                      · replace c15 := Bool.eq_false_iff.mpr c15
                        subst c15
                        have H1 : (some (0, (⟨#[]⟩ : ByteArray), 5)) = some (r1, r2, r3) := by rw [if_neg (show ¬ (false = true) by decide)] at H; exact H
                        clear H
                        have H := H1
                        clear H1
                        simp only [Option.some.injEq, Prod.mk.injEq] at H
                        obtain ⟨rfl, rfl, rfl⟩ := H
                        have p6 : 0 ≤ (x12_1 : Int) := of_decide_eq_true (by first | (with_reducible assumption) | assumption)
                        have q6 : x12_1 < (a0.size : Int) := of_decide_eq_true (by first | (with_reducible assumption) | assumption)
                        have hx6 := bt_at a0 x12_1
                        replace p6 := eq_true p6
                        replace q6 := eq_true q6
                        go_wp2_with (first | (go_at_call 24; (with_reducible refine (pack_may.calls (wrap64 ((wrap64 (-(wrap64 (Int.tdiv (Go.bits .or .i64 x5_1 (ji9)) 2)))) - 1)) false _ A14.out).mono ?_); rintro e w' ⟨rfl, ⟨nd, rfl⟩⟩; (try first | exact ⟨rfl, _, World.drewN_drewN _ _ _⟩ | exact ⟨rfl, _, Eq.trans (World.drewN_drewN _ _ _) (congrArg (World.drewN _) (Nat.add_assoc _ _ _))⟩)))
                        repeat (go_quiet (first | (go_at_call 24; (with_reducible refine (pack_may.calls (wrap64 ((wrap64 (-(wrap64 (Int.tdiv (Go.bits .or .i64 x5_1 (ji9)) 2)))) - 1)) false _ A14.out).mono ?_); rintro e w' ⟨rfl, ⟨nd, rfl⟩⟩; (try first | exact ⟨rfl, _, World.drewN_drewN _ _ _⟩ | exact ⟨rfl, _, Eq.trans (World.drewN_drewN _ _ _) (congrArg (World.drewN _) (Nat.add_assoc _ _ _))⟩))); try go_wp2_with (first | (go_at_call 24; (with_reducible refine (pack_may.calls (wrap64 ((wrap64 (-(wrap64 (Int.tdiv (Go.bits .or .i64 x5_1 (ji9)) 2)))) - 1)) false _ A14.out).mono ?_); rintro e w' ⟨rfl, ⟨nd, rfl⟩⟩; (try first | exact ⟨rfl, _, World.drewN_drewN _ _ _⟩ | exact ⟨rfl, _, Eq.trans (World.drewN_drewN _ _ _) (congrArg (World.drewN _) (Nat.add_assoc _ _ _))⟩))))
                        go_ret3
                        exact ⟨by first | rfl | (simp [errW_none, errW_some] <;> rfl) | (simp only [← hji2, ← hji7, ← hji9]; first | rfl | (simp [errW_none, errW_some] <;> rfl)) | (simp [*, errW_none, errW_some] <;> rfl), by repeat (first | (with_reducible first | exact HB.out | apply below_alloc | apply pw_below_drewN | apply below_drew1) | exact HB.out)⟩
                  · rw [if_neg c12] at H
                    have c12b0 : ((wrap64 (bt a0 x12_1)) == 0) = false := beq_eq_false_iff_ne.mpr c12
                    have c12b1 : ((wrap64 (bt a0 x12_1)) != 0) = true := bne_iff_ne.mpr c12
                    replace H := Option.bind_eq_some_iff.mp H
                    obtain ⟨t109, A190, H⟩ := H
                    replace H : (if t109 = true then (if 0 ≤ (wrap64 (x12_1 + 1)) then (if (wrap64 (x12_1 + 1)) ≤ (a0.size : Int) then (some (wrap64 ((wrap64 (-(wrap64 (Int.tdiv (Go.bits .or .i64 x5_1 (ji9)) 2)))) - 1), a0.extract ((wrap64 (x12_1 + 1)) : Int).toNat a0.size, 0)) else (none)) else (none)) else (some (0, (⟨#[]⟩ : ByteArray), 5))) = some (r1, r2, r3) := H
                    have A19 := Aside0.mk A190
                    clear A190
                    by_cases c20 : t109 = true
                    · subst c20
                      have H1 : (if 0 ≤ (wrap64 (x12_1 + 1)) then (if (wrap64 (x12_1 + 1)) ≤ (a0.size : Int) then (some (wrap64 ((wrap64 (-(wrap64 (Int.tdiv (Go.bits .or .i64 x5_1 (ji9)) 2)))) - 1), a0.extract ((wrap64 (x12_1 + 1)) : Int).toNat a0.size, 0)) else (none)) else (none)) = some (r1, r2, r3) := by rw [if_pos rfl] at H; exact H
                      clear H
                      have H := H1
                      clear H1
                      obtain ⟨ji21, hji21⟩ : ∃ j_ : Int, (wrap64 (x12_1 + 1)) = j_ := ⟨_, rfl⟩
                      replace H : (if 0 ≤ (ji21) then (if (ji21) ≤ (a0.size : Int) then (some (wrap64 ((wrap64 (-(wrap64 (Int.tdiv (Go.bits .or .i64 x5_1 (ji9)) 2)))) - 1), a0.extract ((ji21) : Int).toNat a0.size, 0)) else (none)) else (none)) = some (r1, r2, r3) := by first | (rw [hji21] at H; exact H) | (simp only [hji21] at H ⊢; exact H)
                      (try rw [hji21] at A19)
                      have hji21w : (IntKind.i64.wrap (x12_1 + 1)) = ji21 := (i64_w _).trans hji21
                      by_cases c22 : 0 ≤ (ji21)
                      · rw [if_pos c22] at H
                        have c22b0 := eq_true c22
                        have c22b1 : decide (0 ≤ (ji21)) = true := decide_eq_true c22
                        clear c22
                        by_cases c23 : (ji21) ≤ (a0.size : Int)
                        · rw [if_pos c23] at H
                          have c23b0 := eq_true c23
                          have c23b1 : decide ((ji21) ≤ (a0.size : Int)) = true := decide_eq_true c23
                          clear c23
                          simp only [Option.some.injEq, Prod.mk.injEq] at H
                          obtain ⟨rfl, rfl, rfl⟩ := H
                          have p6 : 0 ≤ (x12_1 : Int) := of_decide_eq_true (by first | (with_reducible assumption) | assumption)
                          have q6 : x12_1 < (a0.size : Int) := of_decide_eq_true (by first | (with_reducible assumption) | assumption)
                          have hx6 := bt_at a0 x12_1
                          replace p6 := eq_true p6
                          replace q6 := eq_true q6
                          go_wp2_with (first | (go_at_call 24; (with_reducible refine (pack_may.calls (wrap64 ((wrap64 (-(wrap64 (Int.tdiv (Go.bits .or .i64 x5_1 (ji9)) 2)))) - 1)) true _ A19.out).mono ?_); rintro e w' ⟨rfl, ⟨nd, rfl⟩⟩; (try first | exact ⟨rfl, _, World.drewN_drewN _ _ _⟩ | exact ⟨rfl, _, Eq.trans (World.drewN_drewN _ _ _) (congrArg (World.drewN _) (Nat.add_assoc _ _ _))⟩)))
                          repeat (go_quiet (first | (go_at_call 24; (with_reducible refine (pack_may.calls (wrap64 ((wrap64 (-(wrap64 (Int.tdiv (Go.bits .or .i64 x5_1 (ji9)) 2)))) - 1)) true _ A19.out).mono ?_); rintro e w' ⟨rfl, ⟨nd, rfl⟩⟩; (try first | exact ⟨rfl, _, World.drewN_drewN _ _ _⟩ | exact ⟨rfl, _, Eq.trans (World.drewN_drewN _ _ _) (congrArg (World.drewN _) (Nat.add_assoc _ _ _))⟩))); try go_wp2_with (first | (go_at_call 24; (with_reducible refine (pack_may.calls (wrap64 ((wrap64 (-(wrap64 (Int.tdiv (Go.bits .or .i64 x5_1 (ji9)) 2)))) - 1)) true _ A19.out).mono ?_); rintro e w' ⟨rfl, ⟨nd, rfl⟩⟩; (try first | exact ⟨rfl, _, World.drewN_drewN _ _ _⟩ | exact ⟨rfl, _, Eq.trans (World.drewN_drewN _ _ _) (congrArg (World.drewN _) (Nat.add_assoc _ _ _))⟩))))
                          go_ret3
                          exact ⟨by first | rfl | (simp [errW_none, errW_some] <;> rfl) | (simp only [← hji2, ← hji7, ← hji9, ← hji21]; first | rfl | (simp [errW_none, errW_some] <;> rfl)) | (simp [*, errW_none, errW_some] <;> rfl), by repeat (first | (with_reducible first | exact HB.out | apply below_alloc | apply pw_below_drewN | apply below_drew1) | exact HB.out)⟩
                        · rw [if_neg c23] at H
                          exact absurd H (by simp)
                      · rw [if_neg c22] at H
                        exact absurd H (by simp)
                    · replace c20 := Bool.eq_false_iff.mpr c20
                      subst c20
                      have H1 : (some (0, (⟨#[]⟩ : ByteArray), 5)) = some (r1, r2, r3) := by rw [if_neg (show ¬ (false = true) by decide)] at H; exact H
                      clear H
                      have H := H1
                      clear H1
                      simp only [Option.some.injEq, Prod.mk.injEq] at H
                      obtain ⟨rfl, rfl, rfl⟩ := H
                      have p6 : 0 ≤ (x12_1 : Int) := of_decide_eq_true (by first | (with_reducible assumption) | assumption)
                      have q6 : x12_1 < (a0.size : Int) := of_decide_eq_true (by first | (with_reducible assumption) | assumption)
                      have hx6 := bt_at a0 x12_1
                      replace p6 := eq_true p6
                      replace q6 := eq_true q6
                      go_wp2_with (first | (go_at_call 24; (with_reducible refine (pack_may.calls (wrap64 ((wrap64 (-(wrap64 (Int.tdiv (Go.bits .or .i64 x5_1 (ji9)) 2)))) - 1)) false _ A19.out).mono ?_); rintro e w' ⟨rfl, ⟨nd, rfl⟩⟩; (try first | exact ⟨rfl, _, World.drewN_drewN _ _ _⟩ | exact ⟨rfl, _, Eq.trans (World.drewN_drewN _ _ _) (congrArg (World.drewN _) (Nat.add_assoc _ _ _))⟩)))
                      repeat (go_quiet (first | (go_at_call 24; (with_reducible refine (pack_may.calls (wrap64 ((wrap64 (-(wrap64 (Int.tdiv (Go.bits .or .i64 x5_1 (ji9)) 2)))) - 1)) false _ A19.out).mono ?_); rintro e w' ⟨rfl, ⟨nd, rfl⟩⟩; (try first | exact ⟨rfl, _, World.drewN_drewN _ _ _⟩ | exact ⟨rfl, _, Eq.trans (World.drewN_drewN _ _ _) (congrArg (World.drewN _) (Nat.add_assoc _ _ _))⟩))); try go_wp2_with (first | (go_at_call 24; (with_reducible refine (pack_may.calls (wrap64 ((wrap64 (-(wrap64 (Int.tdiv (Go.bits .or .i64 x5_1 (ji9)) 2)))) - 1)) false _ A19.out).mono ?_); rintro e w' ⟨rfl, ⟨nd, rfl⟩⟩; (try first | exact ⟨rfl, _, World.drewN_drewN _ _ _⟩ | exact ⟨rfl, _, Eq.trans (World.drewN_drewN _ _ _) (congrArg (World.drewN _) (Nat.add_assoc _ _ _))⟩))))
                      go_ret3
                      exact ⟨by first | rfl | (simp [errW_none, errW_some] <;> rfl) | (simp only [← hji2, ← hji7, ← hji9]; first | rfl | (simp [errW_none, errW_some] <;> rfl)) | (simp [*, errW_none, errW_some] <;> rfl), by repeat (first | (with_reducible first | exact HB.out | apply below_alloc | apply pw_below_drewN | apply below_drew1) | exact HB.out)⟩
                · rw [if_neg c11] at H
                  have c11b0 : ((Int.tmod (Go.bits .or .i64 x5_1 (ji9)) 2) == 1) = false := beq_eq_false_iff_ne.mpr c11
                  have c11b1 : ((Int.tmod (Go.bits .or .i64 x5_1 (ji9)) 2) != 1) = true := bne_iff_ne.mpr c11
                  by_cases c24 : (wrap64 (bt a0 x12_1)) = 0
                  · rw [if_pos c24] at H
                    have c24b0 : ((wrap64 (bt a0 x12_1)) == 0) = true := beq_iff_eq.mpr c24
                    have c24b1 : ((wrap64 (bt a0 x12_1)) != 0) = false := bne_eq_false_iff_eq.mpr c24
                    clear c24
                    by_cases c25 : x12_1 > 0
                    · rw [if_pos c25] at H
                      have c25b0 : decide (0 < x12_1) = true := decide_eq_true c25
                      clear c25
                      simp only [Option.some.injEq, Prod.mk.injEq] at H
                      obtain ⟨rfl, rfl, rfl⟩ := H
                      have p6 : 0 ≤ (x12_1 : Int) := of_decide_eq_true (by first | (with_reducible assumption) | assumption)
                      have q6 : x12_1 < (a0.size : Int) := of_decide_eq_true (by first | (with_reducible assumption) | assumption)
                      have hx6 := bt_at a0 x12_1
                      replace p6 := eq_true p6
                      replace q6 := eq_true q6
                      go_wp2
                      repeat (go_quiet (fail); try go_wp2)
                      go_ret3
                      exact ⟨by first | rfl | (simp [errW_none, errW_some] <;> rfl) | (simp only [← hji2, ← hji7, ← hji9]; first | rfl | (simp [errW_none, errW_some] <;> rfl)) | (simp [*, errW_none, errW_some] <;> rfl), by repeat (first | (with_reducible first | exact HB.out | apply below_alloc | apply pw_below_drewN | apply below_drew1) | exact HB.out)⟩
                    · rw [if_neg c25] at H
                      have c25b0 : decide (0 < x12_1) = false := decide_eq_false c25
                      clear c25
                      replace H := Option.bind_eq_some_iff.mp H
                      obtain ⟨t110, A260, H⟩ := H
                      replace H : (if t110 = true then (if 0 ≤ (wrap64 (x12_1 + 1)) then (if (wrap64 (x12_1 + 1)) ≤ (a0.size : Int) then (some (wrap64 (Int.tdiv (Go.bits .or .i64 x5_1 (ji9)) 2), a0.extract ((wrap64 (x12_1 + 1)) : Int).toNat a0.size, 0)) else (none)) else (none)) else (some (0, (⟨#[]⟩ : ByteArray), 5))) = some (r1, r2, r3) := H
                      have A26 := Aside0.mk A260
                      clear A260
                      by_cases c27 : t110 = true
                      · subst c27
                        have H1 : (if 0 ≤ (wrap64 (x12_1 + 1)) then (if (wrap64 (x12_1 + 1)) ≤ (a0.size : Int) then (some (wrap64 (Int.tdiv (Go.bits .or .i64 x5_1 (ji9)) 2), a0.extract ((wrap64 (x12_1 + 1)) : Int).toNat a0.size, 0)) else (none)) else (none)) = some (r1, r2, r3) := by rw [if_pos rfl] at H; exact H
                        clear H
                        have H := H1
                        clear H1
                        obtain ⟨ji28, hji28⟩ : ∃ j_ : Int, (wrap64 (x12_1 + 1)) = j_ := ⟨_, rfl⟩
                        replace H : (if 0 ≤ (ji28) then (if (ji28) ≤ (a0.size : Int) then (some (wrap64 (Int.tdiv (Go.bits .or .i64 x5_1 (ji9)) 2), a0.extract ((ji28) : Int).toNat a0.size, 0)) else (none)) else (none)) = some (r1, r2, r3) := by first | (rw [hji28] at H; exact H) | (simp only [hji28] at H ⊢; exact H)
                        (try rw [hji28] at A26)
                        have hji28w : (IntKind.i64.wrap (x12_1 + 1)) = ji28 := (i64_w _).trans hji28
                        by_cases c29 : 0 ≤ (ji28)
                        · rw [if_pos c29] at H
                          have c29b0 := eq_true c29
                          have c29b1 : decide (0 ≤ (ji28)) = true := decide_eq_true c29
                          clear c29
                          by_cases c30 : (ji28) ≤ (a0.size : Int)
                          · rw [if_pos c30] at H
                            have c30b0 := eq_true c30
                            have c30b1 : decide ((ji28) ≤ (a0.size : Int)) = true := decide_eq_true c30
                            clear c30
                            simp only [Option.some.injEq, Prod.mk.injEq] at H
                            obtain ⟨rfl, rfl, rfl⟩ := H
                            have p6 : 0 ≤ (x12_1 : Int) := of_decide_eq_true (by first | (with_reducible assumption) | assumption)
                            have q6 : x12_1 < (a0.size : Int) := of_decide_eq_true (by first | (with_reducible assumption) | assumption)
                            have hx6 := bt_at a0 x12_1
                            replace p6 := eq_true p6
                            replace q6 := eq_true q6
                            go_wp2_with (first | (go_at_call 24; (with_reducible refine (pack_may.calls (wrap64 (Int.tdiv (Go.bits .or .i64 x5_1 (ji9)) 2)) true _ A26.out).mono ?_); rintro e w' ⟨rfl, ⟨nd, rfl⟩⟩; (try first | exact ⟨rfl, _, World.drewN_drewN _ _ _⟩ | exact ⟨rfl, _, Eq.trans (World.drewN_drewN _ _ _) (congrArg (World.drewN _) (Nat.add_assoc _ _ _))⟩)))
                            repeat (go_quiet (first | (go_at_call 24; (with_reducible refine (pack_may.calls (wrap64 (Int.tdiv (Go.bits .or .i64 x5_1 (ji9)) 2)) true _ A26.out).mono ?_); rintro e w' ⟨rfl, ⟨nd, rfl⟩⟩; (try first | exact ⟨rfl, _, World.drewN_drewN _ _ _⟩ | exact ⟨rfl, _, Eq.trans (World.drewN_drewN _ _ _) (congrArg (World.drewN _) (Nat.add_assoc _ _ _))⟩))); try go_wp2_with (first | (go_at_call 24; (with_reducible refine (pack_may.calls (wrap64 (Int.tdiv (Go.bits .or .i64 x5_1 (ji9)) 2)) true _ A26.out).mono ?_); rintro e w' ⟨rfl, ⟨nd, rfl⟩⟩; (try first | exact ⟨rfl, _, World.drewN_drewN _ _ _⟩ | exact ⟨rfl, _, Eq.trans (World.drewN_drewN _ _ _) (congrArg (World.drewN _) (Nat.add_assoc _ _ _))⟩))))
                            go_ret3
                            exact ⟨by first | rfl | (simp [errW_none, errW_some] <;> rfl) | (simp only [← hji2, ← hji7, ← hji9, ← hji28]; first | rfl | (simp [errW_none, errW_some] <;> rfl)) | (simp [*, errW_none, errW_some] <;> rfl), by repeat (first | (with_reducible first | exact HB.out | apply below_alloc | apply pw_below_drewN | apply below_drew1) | exact HB.out)⟩
                          · rw [if_neg c30] at H
                            exact absurd H (by simp)
                        · rw [if_neg c29] at H
                          exact absurd H (by simp)
                      · replace c27 := Bool.eq_false_iff.mpr c27
                        subst c27
                        have H1 : (some (0, (⟨#[]⟩ : ByteArray), 5)) = some (r1, r2, r3) := by rw [if_neg (show ¬ (false = true) by decide)] at H; exact H
                        clear H
                        have H := H1
                        clear H1
                        simp only [Option.some.injEq, Prod.mk.injEq] at H
                        obtain ⟨rfl, rfl, rfl⟩ := H
                        have p6 : 0 ≤ (x12_1 : Int) := of_decide_eq_true (by first | (with_reducible assumption) | assumption)
                        have q6 : x12_1 < (a0.size : Int) := of_decide_eq_true (by first | (with_reducible assumption) | assumption)
                        have hx6 := bt_at a0 x12_1
                        replace p6 := eq_true p6
                        replace q6 := eq_true q6
                        go_wp2_with (first | (go_at_call 24; (with_reducible refine (pack_may.calls (wrap64 (Int.tdiv (Go.bits .or .i64 x5_1 (ji9)) 2)) false _ A26.out).mono ?_); rintro e w' ⟨rfl, ⟨nd, rfl⟩⟩; (try first | exact ⟨rfl, _, World.drewN_drewN _ _ _⟩ | exact ⟨rfl, _, Eq.trans (World.drewN_drewN _ _ _) (congrArg (World.drewN _) (Nat.add_assoc _ _ _))⟩)))
                        repeat (go_quiet (first | (go_at_call 24; (with_reducible refine (pack_may.calls (wrap64 (Int.tdiv (Go.bits .or .i64 x5_1 (ji9)) 2)) false _ A26.out).mono ?_); rintro e w' ⟨rfl, ⟨nd, rfl⟩⟩; (try first | exact ⟨rfl, _, World.drewN_drewN _ _ _⟩ | exact ⟨rfl, _, Eq.trans (World.drewN_drewN _ _ _) (congrArg (World.drewN _) (Nat.add_assoc _ _ _))⟩))); try go_wp2_with (first | (go_at_call 24; (with_reducible refine (pack_may.calls (wrap64 (Int.tdiv (Go.bits .or .i64 x5_1 (ji9)) 2)) false _ A26.out).mono ?_); rintro e w' ⟨rfl, ⟨nd, rfl⟩⟩; (try first | exact ⟨rfl, _, World.drewN_drewN _ _ _⟩ | exact ⟨rfl, _, Eq.trans (World.drewN_drewN _ _ _) (congrArg (World.drewN _) (Nat.add_assoc _ _ _))⟩))))
                        go_ret3
                        exact ⟨by first | rfl | (simp [errW_none, errW_some] <;> rfl) | (simp only [← hji2, ← hji7, ← hji9]; first | rfl | (simp [errW_none, errW_some] <;> rfl)) | (simp [*, errW_none, errW_some] <;> rfl), by repeat (first | (with_reducible first | exact HB.out | apply below_alloc | apply pw_below_drewN | apply below_drew1) | exact HB.out)⟩
                  · rw [if_neg c24] at H
                    have c24b0 : ((wrap64 (bt a0 x12_1)) == 0) = false := beq_eq_false_iff_ne.mpr c24
                    have c24b1 : ((wrap64 (bt a0 x12_1)) != 0) = true := bne_iff_ne.mpr c24
                    replace H := Option.bind_eq_some_iff.mp H
                    obtain ⟨t111, A310, H⟩ := H
                    replace H : (if t111 = true then (if 0 ≤ (wrap64 (x12_1 + 1)) then (if (wrap64 (x12_1 + 1)) ≤ (a0.size : Int) then (some (wrap64 (Int.tdiv (Go.bits .or .i64 x5_1 (ji9)) 2), a0.extract ((wrap64 (x12_1 + 1)) : Int).toNat a0.size, 0)) else (none)) else (none)) else (some (0, (⟨#[]⟩ : ByteArray), 5))) = some (r1, r2, r3) := H
                    have A31 := Aside0.mk A310
                    clear A310
                    by_cases c32 : t111 = true
                    · subst c32
                      have H1 : (if 0 ≤ (wrap64 (x12_1 + 1)) then (if (wrap64 (x12_1 + 1)) ≤ (a0.size : Int) then (some (wrap64 (Int.tdiv (Go.bits .or .i64 x5_1 (ji9)) 2), a0.extract ((wrap64 (x12_1 + 1)) : Int).toNat a0.size, 0)) else (none)) else (none)) = some (r1, r2, r3) := by rw [if_pos rfl] at H; exact H
                      clear H
                      have H := H1
                      clear H1
                      obtain ⟨ji33, hji33⟩ : ∃ j_ : Int, (wrap64 (x12_1 + 1)) = j_ := ⟨_, rfl⟩
                      replace H : (if 0 ≤ (ji33) then (if (ji33) ≤ (a0.size : Int) then (some (wrap64 (Int.tdiv (Go.bits .or .i64 x5_1 (ji9)) 2), a0.extract ((ji33) : Int).toNat a0.size, 0)) else (none)) else (none)) = some (r1, r2, r3) := by first | (rw [hji33] at H; exact H) | (simp only [hji33] at H ⊢; exact H)
                      (try rw [hji33] at A31)
                      have hji33w : (IntKind.i64.wrap (x12_1 + 1)) = ji33 := (i64_w _).trans hji33
                      by_cases c34 : 0 ≤ (ji33)
                      · rw [if_pos c34] at H
                        have c34b0 := eq_true c34
                        have c34b1 : decide (0 ≤ (ji33)) = true := decide_eq_true c34
                        clear c34
                        by_cases c35 : (ji33) ≤ (a0.size : Int)
                        · rw [if_pos c35] at H
                          have c35b0 := eq_true c35
                          have c35b1 : decide ((ji33) ≤ (a0.size : Int)) = true := decide_eq_true c35
                          clear c35
                          simp only [Option.some.injEq, Prod.mk.injEq] at H
                          obtain ⟨rfl, rfl, rfl⟩ := H
                          have p6 : 0 ≤ (x12_1 : Int) := of_decide_eq_true (by first | (with_reducible assumption) | assumption)
                          have q6 : x12_1 < (a0.size : Int) := of_decide_eq_true (by first | (with_reducible assumption) | assumption)
                          have hx6 := bt_at a0 x12_1
                          replace p6 := eq_true p6
                          replace q6 := eq_true q6
                          go_wp2_with (first | (go_at_call 24; (with_reducible refine (pack_may.calls (wrap64 (Int.tdiv (Go.bits .or .i64 x5_1 (ji9)) 2)) true _ A31.out).mono ?_); rintro e w' ⟨rfl, ⟨nd, rfl⟩⟩; (try first | exact ⟨rfl, _, World.drewN_drewN _ _ _⟩ | exact ⟨rfl, _, Eq.trans (World.drewN_drewN _ _ _) (congrArg (World.drewN _) (Nat.add_assoc _ _ _))⟩)))
                          repeat (go_quiet (first | (go_at_call 24; (with_reducible refine (pack_may.calls (wrap64 (Int.tdiv (Go.bits .or .i64 x5_1 (ji9)) 2)) true _ A31.out).mono ?_); rintro e w' ⟨rfl, ⟨nd, rfl⟩⟩; (try first | exact ⟨rfl, _, World.drewN_drewN _ _ _⟩ | exact ⟨rfl, _, Eq.trans (World.drewN_drewN _ _ _) (congrArg (World.drewN _) (Nat.add_assoc _ _ _))⟩))); try go_wp2_with (first | (go_at_call 24; (with_reducible refine (pack_may.calls (wrap64 (Int.tdiv (Go.bits .or .i64 x5_1 (ji9)) 2)) true _ A31.out).mono ?_); rintro e w' ⟨rfl, ⟨nd, rfl⟩⟩; (try first | exact ⟨rfl, _, World.drewN_drewN _ _ _⟩ | exact ⟨rfl, _, Eq.trans (World.drewN_drewN _ _ _) (congrArg (World.drewN _) (Nat.add_assoc _ _ _))⟩))))
                          go_ret3
                          exact ⟨by first | rfl | (simp [errW_none, errW_some] <;> rfl) | (simp only [← hji2, ← hji7, ← hji9, ← hji33]; first | rfl | (simp [errW_none, errW_some] <;> rfl)) | (simp [*, errW_none, errW_some] <;> rfl), by repeat (first | (with_reducible first | exact HB.out | apply below_alloc | apply pw_below_drewN | apply below_drew1) | exact HB.out)⟩
                        · rw [if_neg c35] at H
                          exact absurd H (by simp)
                      · rw [if_neg c34] at H
                        exact absurd H (by simp)
                    · replace c32 := Bool.eq_false_iff.mpr c32
                      subst c32
                      have H1 : (some (0, (⟨#[]⟩ : ByteArray), 5)) = some (r1, r2, r3) := by rw [if_neg (show ¬ (false = true) by decide)] at H; exact H
                      clear H
                      have H := H1
                      clear H1
                      simp only [Option.some.injEq, Prod.mk.injEq] at H
                      obtain ⟨rfl, rfl, rfl⟩ := H
                      have p6 : 0 ≤ (x12_1 : Int) := of_decide_eq_true (by first | (with_reducible assumption) | assumption)
                      have q6 : x12_1 < (a0.size : Int) := of_decide_eq_true (by first | (with_reducible assumption) | assumption)
                      have hx6 := bt_at a0 x12_1
                      replace p6 := eq_true p6
                      replace q6 := eq_true q6
                      go_wp2_with (first | (go_at_call 24; (with_reducible refine (pack_may.calls (wrap64 (Int.tdiv (Go.bits .or .i64 x5_1 (ji9)) 2)) false _ A31.out).mono ?_); rintro e w' ⟨rfl, ⟨nd, rfl⟩⟩; (try first | exact ⟨rfl, _, World.drewN_drewN _ _ _⟩ | exact ⟨rfl, _, Eq.trans (World.drewN_drewN _ _ _) (congrArg (World.drewN _) (Nat.add_assoc _ _ _))⟩)))
                      repeat (go_quiet (first | (go_at_call 24; (with_reducible refine (pack_may.calls (wrap64 (Int.tdiv (Go.bits .or .i64 x5_1 (ji9)) 2)) false _ A31.out).mono ?_); rintro e w' ⟨rfl, ⟨nd, rfl⟩⟩; (try first | exact ⟨rfl, _, World.drewN_drewN _ _ _⟩ | exact ⟨rfl, _, Eq.trans (World.drewN_drewN _ _ _) (congrArg (World.drewN _) (Nat.add_assoc _ _ _))⟩))); try go_wp2_with (first | (go_at_call 24; (with_reducible refine (pack_may.calls (wrap64 (Int.tdiv (Go.bits .or .i64 x5_1 (ji9)) 2)) false _ A31.out).mono ?_); rintro e w' ⟨rfl, ⟨nd, rfl⟩⟩; (try first | exact ⟨rfl, _, World.drewN_drewN _ _ _⟩ | exact ⟨rfl, _, Eq.trans (World.drewN_drewN _ _ _) (congrArg (World.drewN _) (Nat.add_assoc _ _ _))⟩))))
                      go_ret3
                      exact ⟨by first | rfl | (simp [errW_none, errW_some] <;> rfl) | (simp only [← hji2, ← hji7, ← hji9]; first | rfl | (simp [errW_none, errW_some] <;> rfl)) | (simp [*, errW_none, errW_some] <;> rfl), by repeat (first | (with_reducible first | exact HB.out | apply below_alloc | apply pw_below_drewN | apply below_drew1) | exact HB.out)⟩
            · rw [if_neg c8] at H
              exact absurd H (by simp)
          · rw [if_neg c5] at H
            exact absurd H (by simp)
        · rw [if_neg c4] at H
          exact absurd H (by simp)
      · rw [if_neg c3] at H
        have c3b0 : decide (x12_1 < ji2) = false := decide_eq_false c3
        clear c3
        by_cases c36 : (a0.size : Int) ≥ 9
        · rw [if_pos c36] at H
          have c36b0 : decide (9 ≤ (a0.size : Int)) = true := decide_eq_true c36
          have c36b1 : decide (9 ≤ a0.size) = true := decide_eq_true (by omega)
          clear c36
          simp only [Option.some.injEq, Prod.mk.injEq] at H
          obtain ⟨rfl, rfl, rfl⟩ := H
          go_wp2
          repeat (go_quiet (fail); try go_wp2)
          go_ret3
          exact ⟨by first | rfl | (simp [errW_none, errW_some] <;> rfl) | (simp only [← hji2]; first | rfl | (simp [errW_none, errW_some] <;> rfl)) | (simp [*, errW_none, errW_some] <;> rfl), by repeat (first | (with_reducible first | exact HB.out | apply below_alloc | apply pw_below_drewN | apply below_drew1) | exact HB.out)⟩
        · rw [if_neg c36] at H
          have c36b0 : decide (9 ≤ (a0.size : Int)) = false := decide_eq_false c36
          have c36b1 : decide (9 ≤ a0.size) = false := decide_eq_false (by omega)
          clear c36
          simp only [Option.some.injEq, Prod.mk.injEq] at H
          obtain ⟨rfl, rfl, rfl⟩ := H
          go_wp2
          repeat (go_quiet (fail); try go_wp2)
          go_ret3
          exact ⟨by first | rfl | (simp [errW_none, errW_some] <;> rfl) | (simp only [← hji2]; first | rfl | (simp [errW_none, errW_some] <;> rfl)) | (simp [*, errW_none, errW_some] <;> rfl), by repeat (first | (with_reducible first | exact HB.out | apply below_alloc | apply pw_below_drewN | apply below_drew1) | exact HB.out)⟩

/-! ### tarryref01_May: function 12 -/
def tarryref01_May.f (a0 : Int) : Option (Bool) := if a0 ≥ (-1152921504606846976) then (some (decide (a0 ≤ 1152921504606846976))) else (some false)
set_option maxHeartbeats 8000000 in
set_option maxRecDepth 100000 in
theorem tarryref01_May.calls (a0 : Int) (r : Bool) (w : World) (h : tarryref01_May.f a0 = some r) :
    Calls Try.prog 12 #[.int .i64 a0] w fun e w' => e = .returned (.bool r) ∧ Drawn0 w w' := by
  have H : (if a0 ≥ (-1152921504606846976) then (some (decide (a0 ≤ 1152921504606846976))) else (some false)) = some r := h
  clear h
  by_cases c2 : a0 ≥ (-1152921504606846976)
  · rw [if_pos c2] at H
    have c2b0 : decide ((-1152921504606846976) ≤ a0) = true := decide_eq_true c2
    clear c2
    obtain rfl := Option.some.inj H
    go_enter Try.func12, Try.ntmps12
    go_wp2
    go_ret
    exact ⟨by first | rfl | (simp; done) | (simp [*]; done), by repeat (first | exact Drawn0.refl _ | apply Drawn0.step)⟩
  · rw [if_neg c2] at H
    have c2b0 : decide ((-1152921504606846976) ≤ a0) = false := decide_eq_false c2
    clear c2
    obtain rfl := Option.some.inj H
    go_enter Try.func12, Try.ntmps12
    go_wp2
    go_ret
    exact ⟨by first | rfl | (simp; done) | (simp [*]; done), by repeat (first | exact Drawn0.refl _ | apply Drawn0.step)⟩

end Go.Proofs.Ytacenfolbmdpoaa.PPackNumbers
