/- PayGoes: what time, renewing, catching and closing makes of any money is as the document says, or refused; no condition of its own. -/
import Derived.Test.YtagclnkmndgeoaaGPayGoesx0
namespace Go.Proofs.Ytagclnkmndgeoaa.Pure
open Go Go.RowKit Go.Proofs.Ytagclnkmndgeoaa.PPayGoes Go.Proofs.YtagclnkmndgeoaaW.PrintWords Go.Proofs.YtagclnkmndgeoaaW.PrintLast Go.Proofs.YtagclnkmndgeoaaW.PrintMore
set_option linter.unusedSimpArgs false
theorem wf64 {a : Int} (h : (Lit.int .i64 a).wf = true) : -9223372036854775808 ≤ a ∧ a ≤ 9223372036854775807 := by
  simpa [Lit.wf, IntKind.min, IntKind.max, IntKind.signed, IntKind.bits] using h
theorem wrap64_id {a : Int} (h : -9223372036854775808 ≤ a) (h' : a ≤ 9223372036854775807) : wrap64 a = a := by
  unfold wrap64
  omega
theorem u64_wrap (x : Int) : IntKind.u64.wrap x = x % 18446744073709551616 := by simp [IntKind.wrap, IntKind.bits, IntKind.signed]
theorem may_tells (a : Int) : pack_may.f a = some (decide (-1152921504606846976 ≤ a ∧ a ≤ 1152921504606846976)) := by
  unfold pack_may.f
  split <;> simp <;> omega
theorem and_mask (x : Int) (h : 0 ≤ x) (h2 : x < 18446744073709551616) : Go.bits .and .u64 x 4294967295 = x % 4294967296 := by
  have := bits_mask .u64 64 (by decide) (by intro n h h'; simp [IntKind.wrap, IntKind.bits, IntKind.signed]; omega) 32 (by decide) x h (by simpa using h2)
  simpa using this

theorem mul_split (x y x1 x0 y1 y0 : Int) (hx : x = x1 * 4294967296 + x0) (hy : y = y1 * 4294967296 + y0) : x * y = x1 * y1 * 18446744073709551616 + (x1 * y0 + x0 * y1) * 4294967296 + x0 * y0 := by
  subst hx hy
  simp only [Int.add_mul, Int.mul_add]
  have e1 : x1 * 4294967296 * (y1 * 4294967296) = x1 * y1 * 18446744073709551616 := by
    rw [Int.mul_assoc, Int.mul_left_comm 4294967296 y1, ← Int.mul_assoc]
    rfl
  have e2 : x1 * 4294967296 * y0 = x1 * y0 * 4294967296 := Int.mul_right_comm ..
  have e3 : x0 * (y1 * 4294967296) = x0 * y1 * 4294967296 := (Int.mul_assoc ..).symm
  rw [e1, e2, e3]
  omega

theorem prod_le {a b c d : Int} (ha : 0 ≤ a) (hb : 0 ≤ b) (h1 : a ≤ c) (h2 : b ≤ d) : 0 ≤ a * b ∧ a * b ≤ c * d :=
  ⟨Int.mul_nonneg ha hb, Int.mul_le_mul h1 h2 hb (by omega)⟩

theorem mul64_tells (x y : Int) (hx : 0 ≤ x ∧ x ≤ 1152921504606846976) (hy : 0 ≤ y ∧ y ≤ 1152921504606846976) :
    bits_Mul64.f x y = some (x * y / 18446744073709551616, x * y % 18446744073709551616) := by
  unfold bits_Mul64.f
  have hs := mul_split x y (x / 4294967296) (x % 4294967296) (y / 4294967296) (y % 4294967296) (by omega) (by omega)
  have p11 := prod_le (a := x / 4294967296) (b := y / 4294967296) (c := 268435456) (d := 268435456) (by omega) (by omega) (by omega) (by omega)
  have p10 := prod_le (a := x / 4294967296) (b := y % 4294967296) (c := 268435456) (d := 4294967295) (by omega) (by omega) (by omega) (by omega)
  have p01 := prod_le (a := x % 4294967296) (b := y / 4294967296) (c := 4294967295) (d := 268435456) (by omega) (by omega) (by omega) (by omega)
  have p00 := prod_le (a := x % 4294967296) (b := y % 4294967296) (c := 4294967295) (d := 4294967295) (by omega) (by omega) (by omega) (by omega)
  simp only [and_mask x hx.1 (by omega), and_mask y hy.1 (by omega)]
  generalize x / 4294967296 * (y / 4294967296) = q11 at *
  generalize x / 4294967296 * (y % 4294967296) = q10 at *
  generalize x % 4294967296 * (y / 4294967296) = q01 at *
  generalize x % 4294967296 * (y % 4294967296) = q00 at *
  rw [hs]
  simp only [u64_wrap]
  have w0 : q00 % 18446744073709551616 = q00 := by omega
  have w1 : q10 % 18446744073709551616 = q10 := by omega
  have w2 : q01 % 18446744073709551616 = q01 := by omega
  have w3 : q11 % 18446744073709551616 = q11 := by omega
  rw [w0, w1, w2, w3]
  rw [and_mask _ (by omega) (by omega)]
  congr 2 <;> omega

theorem size_tells (a : Int) (h : -1152921504606846976 ≤ a ∧ a ≤ 1152921504606846976) : pack_size.f a = some (a.natAbs : Int) := by
  unfold pack_size.f
  split
  · rw [wrap64_id (by omega) (by omega), u64_wrap]
    congr 1
    omega
  · rw [u64_wrap]
    congr 1
    omega

theorem times_tells (k : Nat) (a b : Int) :
    pack_Times.f (k + 1) a b = some (if (-1152921504606846976 ≤ a ∧ a ≤ 1152921504606846976) ∧ (-1152921504606846976 ≤ b ∧ b ≤ 1152921504606846976) then (if -1152921504606846976 ≤ a * b ∧ a * b ≤ 1152921504606846976 then (a * b, 0) else (0, 2)) else (0, 1)) := by
  simp only [pack_Times.f, may_tells, Option.bind_some]
  by_cases h1 : -1152921504606846976 ≤ a ∧ a ≤ 1152921504606846976
  · by_cases h2 : -1152921504606846976 ≤ b ∧ b ≤ 1152921504606846976
    · simp only [pack_Times.j0, size_tells a h1, size_tells b h2, Option.bind_some, decide_eq_true h1, decide_eq_true h2, if_true, Bool.not_true]
      have h12 : (-1152921504606846976 ≤ a ∧ a ≤ 1152921504606846976) ∧ (-1152921504606846976 ≤ b ∧ b ≤ 1152921504606846976) := ⟨h1, h2⟩
      rw [mul64_tells _ _ ⟨by omega, by omega⟩ ⟨by omega, by omega⟩, if_pos h12]
      have e : (a.natAbs : Int) * (b.natAbs : Int) = ((a * b).natAbs : Int) := by rw [Int.natAbs_mul, Int.natCast_mul]
      simp only [Option.bind_some, Bool.false_eq_true, if_false]
      rw [e]
      generalize hp : a * b = p at *
      by_cases h3 : -1152921504606846976 ≤ p ∧ p ≤ 1152921504606846976
      · rw [if_neg (by omega), if_neg (by omega), if_pos h3, wrap64_id (by omega) (by omega)]
      · rw [if_neg h3]
        by_cases h4 : (p.natAbs : Int) / 18446744073709551616 > 0
        · rw [if_pos h4]
        · rw [if_neg h4, if_pos (by omega)]
    · simp [pack_Times.j0, h1, h2]
  · simp [pack_Times.j0, h1]
/-- Which money may be. -/
def Rt (a b c d : Int) : Prop := 0 ≤ a ∧ a ≤ 1125899906842624 ∧ 0 ≤ b ∧ b ≤ a ∧ 0 ≤ c ∧ c ≤ 1099511627776 ∧ 1 ≤ d ∧ d ≤ 3
instance (a b c d : Int) : Decidable (Rt a b c d) := by unfold Rt; exact inferInstance
theorem time_tells (a : Int) : pay_time.f a = some (decide (0 ≤ a ∧ a ≤ 1099511627776)) := by
  unfold pay_time.f
  split <;> simp <;> omega
theorem units_tells (a : Int) : pay_units.f a = some (decide (1 ≤ a ∧ a ≤ 1073741824)) := by
  unfold pay_units.f
  split <;> simp <;> omega
theorem right_tells (a b c d : Int) : pay_Right.f a b c d = some (decide (Rt a b c d)) := by
  unfold pay_Right.f Rt
  simp only [time_tells, Option.bind_some, decide_eq_true_eq]
  repeat' split
  all_goals (congr 1; first | (symm; apply decide_eq_true; omega) | (symm; apply decide_eq_false; omega) | (apply decide_eq_decide.2; omega))
theorem new_tells (k : Nat) (m p u : Int) : pay_New.f (k + 2) m p u = some (if 1 ≤ m ∧ m ≤ 1073741824 ∧ 1 ≤ p ∧ p ≤ 1073741824 ∧ 0 ≤ u ∧ u ≤ 1099511627776 then (if m * p > 1125899906842624 then (0, 0, 0, 0, 2) else (m * p, 0, u, 1, 0)) else (0, 0, 0, 0, 1)) := by
  simp only [pay_New.f, units_tells, time_tells, Option.bind_some, decide_eq_true_eq, pay_New.j0, times_tells]
  by_cases h1 : 1 ≤ m ∧ m ≤ 1073741824
  · by_cases h2 : 1 ≤ p ∧ p ≤ 1073741824
    · by_cases h3 : 0 ≤ u ∧ u ≤ 1099511627776
      · have h4 := prod_le (a := m) (b := p) (c := 1073741824) (d := 1073741824) (by omega) (by omega) h1.2 h2.2
        have h5 : m * p ≤ 1152921504606846976 := by omega
        have h6 : -1152921504606846976 ≤ m * p := by omega
        have h7 : -1152921504606846976 ≤ m ∧ m ≤ 1152921504606846976 := by omega
        have h8 : -1152921504606846976 ≤ p ∧ p ≤ 1152921504606846976 := by omega
        simp only [h1, h2, h3, h5, h6, h7, h8, true_and, and_true, and_self, if_true, Option.bind_some, decide_true, Bool.not_true, Bool.false_eq_true, if_false]
        split <;> rfl
      · have hn : ¬ (1 ≤ m ∧ m ≤ 1073741824 ∧ 1 ≤ p ∧ p ≤ 1073741824 ∧ 0 ≤ u ∧ u ≤ 1099511627776) := by omega
        rw [if_pos h1, if_pos h2]
        refine Eq.trans ?_ (congrArg some (if_neg hn).symm)
        simp only [h3, decide_false, Bool.not_false, if_true]
    · have hn : ¬ (1 ≤ m ∧ m ≤ 1073741824 ∧ 1 ≤ p ∧ p ≤ 1073741824 ∧ 0 ≤ u ∧ u ≤ 1099511627776) := by omega
      rw [if_pos h1, if_neg h2]
      refine Eq.trans ?_ (congrArg some (if_neg hn).symm)
      simp only [if_true]
  · have hn : ¬ (1 ≤ m ∧ m ≤ 1073741824 ∧ 1 ≤ p ∧ p ≤ 1073741824 ∧ 0 ≤ u ∧ u ≤ 1099511627776) := by omega
    rw [if_neg h1]
    refine Eq.trans ?_ (congrArg some (if_neg hn).symm)
    simp only [if_true]
/-- What is promised. -/
def newv (m p u : Int) : Int × Int × Int × Int × Int := if 1 ≤ m ∧ m ≤ 1073741824 ∧ 1 ≤ p ∧ p ≤ 1073741824 ∧ 0 ≤ u ∧ u ≤ 1099511627776 then (if m * p > 1125899906842624 then (0, 0, 0, 0, 2) else (m * p, 0, u, 1, 0)) else (0, 0, 0, 0, 1)
theorem newv_tells (k : Nat) (m p u : Int) : pay_New.f (k + 2) m p u = some (newv m p u) := new_tells k m p u
theorem catch_tells (a b c d n : Int) : pay_Catch.f a b c d n = some (if 0 ≤ n ∧ Rt a b c d then (if d = 3 then (0, 0, 0, 0, 10) else if n ≤ a - b then (a, b + n, c, d, 0) else (0, 0, 0, 0, 2)) else (0, 0, 0, 0, 1)) := by
  unfold pay_Catch.f
  simp only [right_tells, Option.bind_some, decide_eq_true_eq]
  by_cases h : n < 0
  · rw [if_pos h, if_neg (by omega)]
  · rw [if_neg h]
    by_cases h2 : Rt a b c d
    · have h3 : 0 ≤ n := by omega
      simp only [h2, h3, and_self, if_true]
      repeat' split
      all_goals rfl
    · rw [if_neg h2, if_neg (fun h => h2 h.2)]
theorem alive_tells (k : Nat) : tarrylaw11_alive.f (k + 2) = some true := by
  simp only [tarrylaw11_alive.f, new_tells, Option.bind_some]
  rw [if_pos (by decide), if_neg (by decide)]
  simp only [catch_tells, Option.bind_some]
  rw [if_pos (by decide)]
  rfl
theorem in_tells (a l m : Int) : tarrylaw11_in.f a l m = some (decide (l ≤ a ∧ a ≤ m)) := by
  unfold tarrylaw11_in.f
  split <;> simp <;> omega
theorem lright_tells (a b c d : Int) : tarrylaw11_right.f a b c d = some (decide (Rt a b c d)) := by
  unfold tarrylaw11_right.f Rt
  simp only [in_tells, Option.bind_some, decide_eq_true_eq]
  repeat' split
  all_goals (congr 1; first | (symm; apply decide_eq_true; omega) | (symm; apply decide_eq_false; omega) | (apply decide_eq_decide.2; omega))
theorem lapse_tells (a b c d n : Int) : pay_Lapse.f a b c d n = some (if Rt a b c d then (if d = 1 ∧ c ≤ n then (a, b, c, 2, true, 0) else (a, b, c, d, false, 0)) else (0, 0, 0, 0, false, 1)) := by
  unfold pay_Lapse.f
  simp only [right_tells, Option.bind_some, decide_eq_true_eq]
  by_cases h : Rt a b c d
  · by_cases h1 : d = 1
    · by_cases h2 : c ≤ n <;> simp [h1, h2]
      all_goals subst h1; simp [h]
    · simp [h, h1]
  · simp [h]
theorem close_tells (a b c d : Int) : pay_Close.f a b c d = some (if Rt a b c d then (if d = 3 then (0, 0, 0, 0, 10) else (a, b, c, 3, 0)) else (0, 0, 0, 0, 1)) := by
  unfold pay_Close.f
  simp only [right_tells, Option.bind_some, decide_eq_true_eq]
  repeat' split
  all_goals rfl
theorem renew_tells (a b c d n : Int) : pay_Renew.f a b c d n = some (if 0 ≤ n ∧ n ≤ 1099511627776 ∧ Rt a b c d then (if d = 2 then (a, b, n, 1, 0) else (0, 0, 0, 0, 10)) else (0, 0, 0, 0, 1)) := by
  unfold pay_Renew.f
  simp only [right_tells, Option.bind_some, decide_eq_true_eq]
  by_cases h1 : n < 0
  · rw [if_pos h1, if_neg (by omega)]
  · by_cases h2 : n > 1099511627776
    · rw [if_neg h1, if_pos h2, if_neg (by omega)]
    · rw [if_neg h1, if_neg h2]
      by_cases h : Rt a b c d
      · have h3 : 0 ≤ n := by omega
        have h4 : n ≤ 1099511627776 := by omega
        simp only [h, h3, h4, and_self, if_true]
        repeat' split
        all_goals rfl
      · simp [h]
theorem PayGoes : tarrylaw11_PayGoes.Pure := by
  intro a b c d now u n ha hb hc hd hnow hu hn
  have wn := wf64 hn
  refine ⟨10, ?_⟩
  rw [tarrylaw11_PayGoes.f, lapse_tells, renew_tells, catch_tells, close_tells, lright_tells, alive_tells 8]
  simp only [Option.bind_some, if_true, decide_eq_true_eq]
  by_cases hR : Rt a b c d
  · have hR' := hR
    unfold Rt at hR'
    have wab : wrap64 (a - b) = a - b := wrap64_id (by omega) (by omega)
    have wbn : 0 ≤ n → n ≤ a - b → wrap64 (b + n) = b + n := fun _ _ => wrap64_id (by omega) (by omega)
    have hdc : d = 1 ∨ d = 2 ∨ d = 3 := by omega
    have hU : (0 ≤ u ∧ u ≤ 1099511627776 ∧ Rt a b c d) = (0 ≤ u ∧ u ≤ 1099511627776) := by simp [hR]
    have hN : (0 ≤ n ∧ Rt a b c d) = (0 ≤ n) := by simp [hR]
    simp only [hU, hN, hR, if_true]
    clear hU hN
    obtain rfl | rfl | rfl := hdc
    · by_cases h1 : c ≤ now
      all_goals by_cases h2 : 0 ≤ u ∧ u ≤ 1099511627776
      all_goals by_cases h3 : n < 0
      all_goals by_cases h4 : n > a - b
      all_goals (first | (exfalso; omega) | skip)
      all_goals (have h5 : (0 ≤ n) = ¬ (n < 0) := by simp)
      all_goals (have h6 : (n ≤ a - b) = ¬ (n > a - b) := by simp)
      all_goals (have h7 : n < 0 ∨ n > a - b ∨ wrap64 (b + n) = b + n := by (by_cases q : n < 0; exact .inl q; by_cases r : n > a - b; exact .inr (.inl r); exact .inr (.inr (wbn (by omega) (by omega)))))
      all_goals simp only [h3, h4, false_or, true_or] at h7
      all_goals simp [h1, h2, h3, h4, h5, h6, h7, wab, in_tells, tarrylaw11_PayGoes.j98, tarrylaw11_PayGoes.j180, tarrylaw11_PayGoes.j188, tarrylaw11_PayGoes.j195, tarrylaw11_PayGoes.j196, -gt_iff_lt]
    · by_cases h2 : 0 ≤ u ∧ u ≤ 1099511627776
      all_goals by_cases h3 : n < 0
      all_goals by_cases h4 : n > a - b
      all_goals (first | (exfalso; omega) | skip)
      all_goals (have h5 : (0 ≤ n) = ¬ (n < 0) := by simp)
      all_goals (have h6 : (n ≤ a - b) = ¬ (n > a - b) := by simp)
      all_goals (have h7 : n < 0 ∨ n > a - b ∨ wrap64 (b + n) = b + n := by (by_cases q : n < 0; exact .inl q; by_cases r : n > a - b; exact .inr (.inl r); exact .inr (.inr (wbn (by omega) (by omega)))))
      all_goals simp only [h3, h4, false_or, true_or] at h7
      all_goals simp [h2, h3, h4, h5, h6, h7, wab, in_tells, tarrylaw11_PayGoes.j98, tarrylaw11_PayGoes.j180, tarrylaw11_PayGoes.j188, tarrylaw11_PayGoes.j195, tarrylaw11_PayGoes.j196, -gt_iff_lt]
    · by_cases h2 : 0 ≤ u ∧ u ≤ 1099511627776
      all_goals by_cases h3 : n < 0
      all_goals (have h5 : (0 ≤ n) = ¬ (n < 0) := by simp)
      all_goals simp [h2, h3, h5, wab, in_tells, tarrylaw11_PayGoes.j98, tarrylaw11_PayGoes.j180, tarrylaw11_PayGoes.j188, tarrylaw11_PayGoes.j195, tarrylaw11_PayGoes.j196, -gt_iff_lt]
  · simp [hR, tarrylaw11_PayGoes.j98]
end Go.Proofs.Ytagclnkmndgeoaa.Pure
