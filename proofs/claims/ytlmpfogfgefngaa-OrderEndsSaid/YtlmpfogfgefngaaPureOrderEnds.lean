/- OrderEnds: whatever is free, comes, and is cut off, an order stays such as may be, and comes to its end: the statement's Go function answers true at every input; no further condition. -/
import Derived.Test.YtlmpfogfgefngaaGOrderEndsx0
namespace Go.Proofs.Ytlmpfogfgefngaa.Pure
open Go Go.RowKit Go.Proofs.Ytlmpfogfgefngaa.GOrderEnds Go.Proofs.Ytlmpfogfgefngaa.POrderParts Go.Proofs.YtlmpfogfgefngaaV
set_option linter.unusedSimpArgs false
theorem wf64 {a : Int} (h : (Lit.int .i64 a).wf = true) : -9223372036854775808 ≤ a ∧ a ≤ 9223372036854775807 := by
  simpa [Lit.wf, IntKind.min, IntKind.max, IntKind.signed, IntKind.bits] using h
theorem wrap64_id {a : Int} (h : -9223372036854775808 ≤ a) (h' : a ≤ 9223372036854775807) : wrap64 a = a := by
  unfold wrap64
  omega
theorem u64_wrap (x : Int) : IntKind.u64.wrap x = x % 18446744073709551616 := by simp [IntKind.wrap, IntKind.bits, IntKind.signed]
theorem may_tells (a : Int) : pack_may.f a = some (decide (-1152921504606846976 ≤ a ∧ a ≤ 1152921504606846976)) := by
  unfold pack_may.f
  split <;> simp <;> omega
theorem and_mask (x : Int) (h : 0 ≤ x) (h2 : x < 18446744073709551616) : Go.bits .and .u64 x 4294967295 = x % 4294967296 := by
  have := bits_mask .u64 64 (by decide) (by intro n h h'; simp [IntKind.wrap, IntKind.bits, IntKind.signed]; omega) 32 (by decide) x h (by simpa using h2)
  simpa using this

theorem mul_split (x y x1 x0 y1 y0 : Int) (hx : x = x1 * 4294967296 + x0) (hy : y = y1 * 4294967296 + y0) : x * y = x1 * y1 * 18446744073709551616 + (x1 * y0 + x0 * y1) * 4294967296 + x0 * y0 := by
  subst hx hy
  simp only [Int.add_mul, Int.mul_add]
  have e1 : x1 * 4294967296 * (y1 * 4294967296) = x1 * y1 * 18446744073709551616 := by
    rw [Int.mul_assoc, Int.mul_left_comm 4294967296 y1, ← Int.mul_assoc]
    rfl
  have e2 : x1 * 4294967296 * y0 = x1 * y0 * 4294967296 := Int.mul_right_comm ..
  have e3 : x0 * (y1 * 4294967296) = x0 * y1 * 4294967296 := (Int.mul_assoc ..).symm
  rw [e1, e2, e3]
  omega

theorem prod_le {a b c d : Int} (ha : 0 ≤ a) (hb : 0 ≤ b) (h1 : a ≤ c) (h2 : b ≤ d) : 0 ≤ a * b ∧ a * b ≤ c * d :=
  ⟨Int.mul_nonneg ha hb, Int.mul_le_mul h1 h2 hb (by omega)⟩

theorem mul64_tells (x y : Int) (hx : 0 ≤ x ∧ x ≤ 1152921504606846976) (hy : 0 ≤ y ∧ y ≤ 1152921504606846976) :
    bits_Mul64.f x y = some (x * y / 18446744073709551616, x * y % 18446744073709551616) := by
  unfold bits_Mul64.f
  have hs := mul_split x y (x / 4294967296) (x % 4294967296) (y / 4294967296) (y % 4294967296) (by omega) (by omega)
  have p11 := prod_le (a := x / 4294967296) (b := y / 4294967296) (c := 268435456) (d := 268435456) (by omega) (by omega) (by omega) (by omega)
  have p10 := prod_le (a := x / 4294967296) (b := y % 4294967296) (c := 268435456) (d := 4294967295) (by omega) (by omega) (by omega) (by omega)
  have p01 := prod_le (a := x % 4294967296) (b := y / 4294967296) (c := 4294967295) (d := 268435456) (by omega) (by omega) (by omega) (by omega)
  have p00 := prod_le (a := x % 4294967296) (b := y % 4294967296) (c := 4294967295) (d := 4294967295) (by omega) (by omega) (by omega) (by omega)
  simp only [and_mask x hx.1 (by omega), and_mask y hy.1 (by omega)]
  generalize x / 4294967296 * (y / 4294967296) = q11 at *
  generalize x / 4294967296 * (y % 4294967296) = q10 at *
  generalize x % 4294967296 * (y / 4294967296) = q01 at *
  generalize x % 4294967296 * (y % 4294967296) = q00 at *
  rw [hs]
  simp only [u64_wrap]
  have w0 : q00 % 18446744073709551616 = q00 := by omega
  have w1 : q10 % 18446744073709551616 = q10 := by omega
  have w2 : q01 % 18446744073709551616 = q01 := by omega
  have w3 : q11 % 18446744073709551616 = q11 := by omega
  rw [w0, w1, w2, w3]
  rw [and_mask _ (by omega) (by omega)]
  congr 2 <;> omega

theorem size_tells (a : Int) (h : -1152921504606846976 ≤ a ∧ a ≤ 1152921504606846976) : pack_size.f a = some (a.natAbs : Int) := by
  unfold pack_size.f
  split
  · rw [wrap64_id (by omega) (by omega), u64_wrap]
    congr 1
    omega
  · rw [u64_wrap]
    congr 1
    omega

theorem times_tells (k : Nat) (a b : Int) :
    pack_Times.f (k + 1) a b = some (if (-1152921504606846976 ≤ a ∧ a ≤ 1152921504606846976) ∧ (-1152921504606846976 ≤ b ∧ b ≤ 1152921504606846976) then (if -1152921504606846976 ≤ a * b ∧ a * b ≤ 1152921504606846976 then (a * b, 0) else (0, 2)) else (0, 1)) := by
  simp only [pack_Times.f, may_tells, Option.bind_some]
  by_cases h1 : -1152921504606846976 ≤ a ∧ a ≤ 1152921504606846976
  · by_cases h2 : -1152921504606846976 ≤ b ∧ b ≤ 1152921504606846976
    · simp only [pack_Times.j0, size_tells a h1, size_tells b h2, Option.bind_some, decide_eq_true h1, decide_eq_true h2, if_true, Bool.not_true]
      have h12 : (-1152921504606846976 ≤ a ∧ a ≤ 1152921504606846976) ∧ (-1152921504606846976 ≤ b ∧ b ≤ 1152921504606846976) := ⟨h1, h2⟩
      rw [mul64_tells _ _ ⟨by omega, by omega⟩ ⟨by omega, by omega⟩, if_pos h12]
      have e : (a.natAbs : Int) * (b.natAbs : Int) = ((a * b).natAbs : Int) := by rw [Int.natAbs_mul, Int.natCast_mul]
      simp only [Option.bind_some, Bool.false_eq_true, if_false]
      rw [e]
      generalize hp : a * b = p at *
      by_cases h3 : -1152921504606846976 ≤ p ∧ p ≤ 1152921504606846976
      · rw [if_neg (by omega), if_neg (by omega), if_pos h3, wrap64_id (by omega) (by omega)]
      · rw [if_neg h3]
        by_cases h4 : (p.natAbs : Int) / 18446744073709551616 > 0
        · rw [if_pos h4]
        · rw [if_neg h4, if_pos (by omega)]
    · simp [pack_Times.j0, h1, h2]
  · simp [pack_Times.j0, h1]
/-- Which money may be. -/
def Rt (a b c d : Int) : Prop := 0 ≤ a ∧ a ≤ 1125899906842624 ∧ 0 ≤ b ∧ b ≤ a ∧ 0 ≤ c ∧ c ≤ 1099511627776 ∧ 1 ≤ d ∧ d ≤ 3
instance (a b c d : Int) : Decidable (Rt a b c d) := by unfold Rt; exact inferInstance
theorem time_tells (a : Int) : pay_time.f a = some (decide (0 ≤ a ∧ a ≤ 1099511627776)) := by
  unfold pay_time.f
  split <;> simp <;> omega
theorem units_tells (a : Int) : pay_units.f a = some (decide (1 ≤ a ∧ a ≤ 1073741824)) := by
  unfold pay_units.f
  split <;> simp <;> omega
theorem right_tells (a b c d : Int) : pay_Right.f a b c d = some (decide (Rt a b c d)) := by
  unfold pay_Right.f Rt
  simp only [time_tells, Option.bind_some, decide_eq_true_eq]
  repeat' split
  all_goals (congr 1; first | (symm; apply decide_eq_true; omega) | (symm; apply decide_eq_false; omega) | (apply decide_eq_decide.2; omega))
theorem new_tells (k : Nat) (m p u : Int) : pay_New.f (k + 2) m p u = some (if 1 ≤ m ∧ m ≤ 1073741824 ∧ 1 ≤ p ∧ p ≤ 1073741824 ∧ 0 ≤ u ∧ u ≤ 1099511627776 then (if m * p > 1125899906842624 then (0, 0, 0, 0, 2) else (m * p, 0, u, 1, 0)) else (0, 0, 0, 0, 1)) := by
  simp only [pay_New.f, units_tells, time_tells, Option.bind_some, decide_eq_true_eq, pay_New.j0, times_tells]
  by_cases h1 : 1 ≤ m ∧ m ≤ 1073741824
  · by_cases h2 : 1 ≤ p ∧ p ≤ 1073741824
    · by_cases h3 : 0 ≤ u ∧ u ≤ 1099511627776
      · have h4 := prod_le (a := m) (b := p) (c := 1073741824) (d := 1073741824) (by omega) (by omega) h1.2 h2.2
        have h5 : m * p ≤ 1152921504606846976 := by omega
        have h6 : -1152921504606846976 ≤ m * p := by omega
        have h7 : -1152921504606846976 ≤ m ∧ m ≤ 1152921504606846976 := by omega
        have h8 : -1152921504606846976 ≤ p ∧ p ≤ 1152921504606846976 := by omega
        simp only [h1, h2, h3, h5, h6, h7, h8, true_and, and_true, and_self, if_true, Option.bind_some, decide_true, Bool.not_true, Bool.false_eq_true, if_false]
        split <;> rfl
      · have hn : ¬ (1 ≤ m ∧ m ≤ 1073741824 ∧ 1 ≤ p ∧ p ≤ 1073741824 ∧ 0 ≤ u ∧ u ≤ 1099511627776) := by omega
        rw [if_pos h1, if_pos h2]
        refine Eq.trans ?_ (congrArg some (if_neg hn).symm)
        simp only [h3, decide_false, Bool.not_false, if_true]
    · have hn : ¬ (1 ≤ m ∧ m ≤ 1073741824 ∧ 1 ≤ p ∧ p ≤ 1073741824 ∧ 0 ≤ u ∧ u ≤ 1099511627776) := by omega
      rw [if_pos h1, if_neg h2]
      refine Eq.trans ?_ (congrArg some (if_neg hn).symm)
      simp only [if_true]
  · have hn : ¬ (1 ≤ m ∧ m ≤ 1073741824 ∧ 1 ≤ p ∧ p ≤ 1073741824 ∧ 0 ≤ u ∧ u ≤ 1099511627776) := by omega
    rw [if_neg h1]
    refine Eq.trans ?_ (congrArg some (if_neg hn).symm)
    simp only [if_true]
/-- What is promised. -/
def newv (m p u : Int) : Int × Int × Int × Int × Int := if 1 ≤ m ∧ m ≤ 1073741824 ∧ 1 ≤ p ∧ p ≤ 1073741824 ∧ 0 ≤ u ∧ u ≤ 1099511627776 then (if m * p > 1125899906842624 then (0, 0, 0, 0, 2) else (m * p, 0, u, 1, 0)) else (0, 0, 0, 0, 1)
theorem newv_tells (k : Nat) (m p u : Int) : pay_New.f (k + 2) m p u = some (newv m p u) := new_tells k m p u
theorem catch_tells (a b c d n : Int) : pay_Catch.f a b c d n = some (if 0 ≤ n ∧ Rt a b c d then (if d = 3 then (0, 0, 0, 0, 10) else if n ≤ a - b then (a, b + n, c, d, 0) else (0, 0, 0, 0, 2)) else (0, 0, 0, 0, 1)) := by
  unfold pay_Catch.f
  simp only [right_tells, Option.bind_some, decide_eq_true_eq]
  by_cases h : n < 0
  · rw [if_pos h, if_neg (by omega)]
  · rw [if_neg h]
    by_cases h2 : Rt a b c d
    · have h3 : 0 ≤ n := by omega
      simp only [h2, h3, and_self, if_true]
      repeat' split
      all_goals rfl
    · rw [if_neg h2, if_neg (fun h => h2 h.2)]
abbrev CUP : ByteArray := ⟨#[99, 117, 112]⟩
abbrev NO : ByteArray := ⟨#[]⟩
theorem name_tells : order_name.f 100 CUP = some true := by decide +kernel
theorem wait_tells : queue_Right.f 100 [⟨0, 1, 1⟩] = some true := by decide +kernel
theorem alive_tells : tarrylaw13_alive.f 100 = some true := by decide +kernel
theorem oin_tells (a l m : Int) : Go.Proofs.Ytlmpfogfgefngaa.GOrderEnds.order_in.f a l m = some (decide (l ≤ a ∧ a ≤ m)) := by
  unfold Go.Proofs.Ytlmpfogfgefngaa.GOrderEnds.order_in.f
  split <;> simp <;> omega
theorem mul_le {a b c d : Int} (ha : 0 ≤ a) (hb : 0 ≤ b) (h1 : a ≤ c) (h2 : b ≤ d) : 0 ≤ a * b ∧ a * b ≤ c * d := ⟨Int.mul_nonneg ha hb, Int.mul_le_mul h1 h2 hb (by omega)⟩
/-- What an order is, at what it asks. -/
theorem right_core (m d p ph st lu lc lk : Int) (ls : ByteArray) (hm : 1 ≤ m ∧ m ≤ 50) (hp : 1 ≤ p ∧ p ≤ 50) (hd : 0 ≤ d ∧ d ≤ m) (hph : 1 ≤ ph ∧ ph ≤ 5) (hst : 1 ≤ st ∧ st ≤ 3) (sp en : Bool) :
    order_Right.f 100 1 CUP 0 1 m d p 9 sp ph ls lu lc lk (m * p) (d * p) 100 st 0 0 en =
      (if ph = 1 then order_phases_1.f 1 CUP 0 1 m d p 9 sp ph ls lu lc lk (m * p) (d * p) 100 st 0 0 en else if ph = 2 then order_phases_2.f 100 1 CUP 0 1 m d p 9 sp ph ls lu lc lk (m * p) (d * p) 100 st 0 0 en else if ph = 3 then order_phases_3.f 1 CUP 0 1 m d p 9 sp ph ls lu lc lk (m * p) (d * p) 100 st 0 0 en else if ph = 4 then order_phases_4.f 1 CUP 0 1 m d p 9 sp ph ls lu lc lk (m * p) (d * p) 100 st 0 0 en else order_phases_5.f 1 CUP 0 1 m d p 9 sp ph ls lu lc lk (m * p) (d * p) 100 st 0 0 en) := by
  obtain ⟨q1, q2⟩ := mul_le (a := m) (b := p) (c := 50) (d := 50) (by omega) (by omega) (by omega) (by omega)
  obtain ⟨q3, q4⟩ := mul_le (a := d) (b := p) (c := m) (d := p) (by omega) (by omega) (by omega) (by omega)
  have hw1 : wrap64 (m * p) = m * p := wrap64_id (by omega) (by omega)
  have hw2 : wrap64 (d * p) = d * p := wrap64_id (by omega) (by omega)
  have hpay : pay_Right.f (m * p) (d * p) 100 st = some true := by
    rw [right_tells]
    congr 1
    apply decide_eq_true
    unfold Rt
    omega
  have hask : ask_Right.f 0 0 = some true := by decide
  unfold order_Right.f
  simp only [oin_tells, Option.bind_some, decide_eq_true_eq]
  rw [if_pos hph, if_pos (by omega), if_pos (by omega), if_pos (by omega), if_pos (by omega)]
  unfold order_Right.j1
  rw [wait_tells, hpay, hw1, hw2]
  simp only [Option.bind_some, if_true, Bool.false_eq_true, if_false, beq_self_eq_true]
  unfold order_Right.j2
  rw [name_tells, hask]
  simp only [Option.bind_some, if_true, order_phases.f]
  rw [if_neg (show ¬ ph = 0 by omega)]
  by_cases h1 : ph = 1
  · rw [if_pos h1, if_pos h1]
    cases order_phases_1.f 1 CUP 0 1 m d p 9 sp ph ls lu lc lk (m * p) (d * p) 100 st 0 0 en <;> rfl
  · rw [if_neg h1, if_neg h1]
    by_cases h2 : ph = 2
    · rw [if_pos h2, if_pos h2]
      cases order_phases_2.f 100 1 CUP 0 1 m d p 9 sp ph ls lu lc lk (m * p) (d * p) 100 st 0 0 en <;> rfl
    · rw [if_neg h2, if_neg h2]
      by_cases h3 : ph = 3
      · rw [if_pos h3, if_pos h3]
        cases order_phases_3.f 1 CUP 0 1 m d p 9 sp ph ls lu lc lk (m * p) (d * p) 100 st 0 0 en <;> rfl
      · rw [if_neg h3, if_neg h3]
        by_cases h4 : ph = 4
        · rw [if_pos h4, if_pos h4]
          cases order_phases_4.f 1 CUP 0 1 m d p 9 sp ph ls lu lc lk (m * p) (d * p) 100 st 0 0 en <;> rfl
        · rw [if_neg h4, if_neg h4, if_pos (by omega)]
          cases order_phases_5.f 1 CUP 0 1 m d p 9 sp ph ls lu lc lk (m * p) (d * p) 100 st 0 0 en <;> rfl
theorem right_wait (m d p : Int) (sp : Bool) (hm : 1 ≤ m ∧ m ≤ 50) (hp : 1 ≤ p ∧ p ≤ 50) (hd : 0 ≤ d ∧ d < m) :
    order_Right.f 100 1 CUP 0 1 m d p 9 sp 1 NO 0 0 0 (m * p) (d * p) 100 1 0 0 false = some true := by
  rw [right_core m d p 1 1 0 0 0 NO hm hp (by omega) (by decide) (by decide), if_pos rfl]
  unfold order_phases_1.f
  rw [if_pos (by omega)]
  rfl
theorem right_send (m d p n key : Int) (sp en : Bool) (hm : 1 ≤ m ∧ m ≤ 50) (hp : 1 ≤ p ∧ p ≤ 50) (hd : 0 ≤ d ∧ d < m) (hn : 1 ≤ n ∧ n ≤ m - d) (hk : 1 ≤ key ∧ key ≤ 100) :
    order_Right.f 100 1 CUP 0 1 m d p 9 sp 2 CUP n n key (m * p) (d * p) 100 1 0 0 en = some true := by
  rw [right_core m d p 2 1 n n key CUP hm hp (by omega) (by decide) (by decide), if_neg (by decide), if_pos rfl]
  have hw : wrap64 (m - d) = m - d := wrap64_id (by omega) (by omega)
  have e1 : decide (1 ≤ n ∧ n ≤ 1073741824) = true := decide_eq_true (by omega)
  have e2 : decide (1 ≤ n ∧ n ≤ m - d) = true := decide_eq_true hn
  have e3 : decide (1 ≤ key ∧ key ≤ 1099511627776) = true := decide_eq_true (by omega)
  unfold order_phases_2.f order_sent.f
  rw [hw, oin_tells, oin_tells, oin_tells, e1, e2, e3, name_tells]
  simp only [Option.bind_some, beq_self_eq_true, if_true]
  rfl
theorem right_done (m p : Int) (sp : Bool) (hm : 1 ≤ m ∧ m ≤ 50) (hp : 1 ≤ p ∧ p ≤ 50) :
    order_Right.f 100 1 CUP 0 1 m m p 9 sp 3 NO 0 0 0 (m * p) (m * p) 100 3 0 0 false = some true := by
  rw [right_core m m p 3 3 0 0 0 NO hm hp (by omega) (by decide) (by decide), if_neg (by decide), if_neg (by decide), if_pos rfl]
  unfold order_phases_3.f order_ended.f
  simp only [beq_self_eq_true]
  rfl
theorem onew_tells (m p : Int) (sp : Bool) (hm : 1 ≤ m ∧ m ≤ 50) (hp : 1 ≤ p ∧ p ≤ 50) :
    order_New.f 100 1 CUP 0 1 m 0 p 9 sp 0 NO 0 0 0 0 0 0 0 0 0 false 100 = some (1, CUP, 0, 1, m, 0, p, 9, sp, 1, NO, 0, 0, 0, m * p, 0, 100, 1, 0, 0, false, 0) := by
  obtain ⟨q1, q2⟩ := mul_le (a := m) (b := p) (c := 50) (d := 50) (by omega) (by omega) (by omega) (by omega)
  unfold order_New.f
  rw [new_tells 98 m p 100, if_pos (by omega), if_neg (by omega)]
  simp only [Option.bind_some, if_true]
  have := right_wait m 0 p sp hm hp (by omega)
  rw [Int.zero_mul] at this
  rw [this]
  rfl
theorem lack_tells (m d p : Int) (sp : Bool) (hm : 1 ≤ m ∧ m ≤ 50) (hp : 1 ≤ p ∧ p ≤ 50) (hd : 0 ≤ d ∧ d < m) :
    order_Lack.f 100 1 CUP 0 1 m d p 9 sp 1 NO 0 0 0 (m * p) (d * p) 100 1 0 0 false = some (m - d) := by
  unfold order_Lack.f
  rw [right_wait m d p sp hm hp hd]
  simp only [Option.bind_some, if_true]
  rw [wrap64_id (by omega) (by omega)]
theorem good_wait (m d p : Int) (hm : 1 ≤ m ∧ m ≤ 50) (hp : 1 ≤ p ∧ p ≤ 50) (hd : 0 ≤ d ∧ d < m) : pay_Good.f (m * p) (d * p) 100 1 5 = some true := by
  obtain ⟨q1, q2⟩ := mul_le (a := m) (b := p) (c := 50) (d := 50) (by omega) (by omega) (by omega) (by omega)
  obtain ⟨q3, q4⟩ := mul_le (a := d) (b := p) (c := m) (d := p) (by omega) (by omega) (by omega) (by omega)
  unfold pay_Good.f
  rw [right_tells, decide_eq_true (by unfold Rt; omega)]
  rfl
theorem send_tells (m d p n key : Int) (sp : Bool) (hm : 1 ≤ m ∧ m ≤ 50) (hp : 1 ≤ p ∧ p ≤ 50) (hd : 0 ≤ d ∧ d < m) (hn : 1 ≤ n ∧ n ≤ m - d) (hk : 1 ≤ key ∧ key ≤ 100) :
    order_Send.f 100 1 CUP 0 1 m d p 9 sp 1 NO 0 0 0 (m * p) (d * p) 100 1 0 0 false CUP n n key = some (1, CUP, 0, 1, m, d, p, 9, sp, 2, CUP, n, n, key, m * p, d * p, 100, 1, 0, 0, false, 0) := by
  unfold order_Send.f
  rw [right_wait m d p sp hm hp hd, right_send m d p n key sp false hm hp hd hn hk]
  rfl
theorem came_tells (m d p n key : Int) (sp : Bool) (hm : 1 ≤ m ∧ m ≤ 50) (hp : 1 ≤ p ∧ p ≤ 50) (hd : 0 ≤ d ∧ d < m) (hn : 1 ≤ n ∧ n ≤ m - d) (hk : 1 ≤ key ∧ key ≤ 100) :
    order_Came.f 100 1 CUP 0 1 m d p 9 sp 2 CUP n n key (m * p) (d * p) 100 1 0 0 false = some (1, CUP, 0, 1, m, d + n, p, 9, sp, if d + n = m then 3 else 1, NO, 0, 0, 0, m * p, (d + n) * p, 100, if d + n = m then 3 else 1, 0, 0, false, n * p, 0) := by
  obtain ⟨q1, q2⟩ := mul_le (a := m) (b := p) (c := 50) (d := 50) (by omega) (by omega) (by omega) (by omega)
  obtain ⟨q3, q4⟩ := mul_le (a := d) (b := p) (c := m) (d := p) (by omega) (by omega) (by omega) (by omega)
  obtain ⟨q5, q6⟩ := mul_le (a := n) (b := p) (c := m - d) (d := p) (by omega) (by omega) (by omega) (by omega)
  have q7 : (m - d) * p = m * p - d * p := Int.sub_mul _ _ _
  have q8 : (d + n) * p = d * p + n * p := Int.add_mul _ _ _
  have hw : wrap64 (n * p) = n * p := wrap64_id (by omega) (by omega)
  have hw2 : wrap64 (d + n) = d + n := wrap64_id (by omega) (by omega)
  unfold order_Came.f
  rw [right_send m d p n key sp false hm hp hd hn hk]
  simp only [Option.bind_some, if_true, hw, hw2]
  have hc : pay_Catch.f (m * p) (d * p) 100 1 (n * p) = some (m * p, (d + n) * p, 100, 1, 0) := by
    rw [catch_tells, if_pos ⟨q5, by unfold Rt; omega⟩, if_neg (by decide), if_pos (by omega), q8]
  rw [hc]
  simp only [Option.bind_some]
  by_cases h : d + n = m
  · rw [if_pos h, if_pos h]
    unfold order_over.f pay_Close.f
    rw [right_tells, decide_eq_true (by unfold Rt; omega)]
    rfl
  · rw [if_neg h, if_neg h]
    rfl
theorem wants_tells (m d p f : Int) (sp : Bool) (hm : 1 ≤ m ∧ m ≤ 50) (hp : 1 ≤ p ∧ p ≤ 50) (hd : 0 ≤ d ∧ d < m) :
    order_Wants.f 100 1 CUP 0 1 m d p 9 sp 1 NO 0 0 0 (m * p) (d * p) 100 1 0 0 false f 5 = some (if f < 1 then 0 else if m - d > f then (if sp = true then f else 0) else m - d) := by
  unfold order_Wants.f
  rw [lack_tells m d p sp hm hp hd, good_wait m d p hm hp hd]
  simp only [Option.bind_some, if_true]
  unfold mn
  by_cases h : f < 1
  · rw [if_pos h, if_pos h]
  · rw [if_neg h, if_neg h]
    by_cases h2 : m - d > f
    · rw [if_pos h2, if_pos h2, if_pos (show f < m - d by omega)]
      cases sp <;> rfl
    · rw [if_neg h2, if_neg h2, if_neg (by omega)]
inductive O where
  | wait (d : Int)
  | send (d n key : Int) (en : Bool)
  | done
  | part (d : Int)
  | canc
def dn (m : Int) : O → Int
  | .wait d => d
  | .send d _ _ _ => d
  | .done => m
  | .part d => d
  | .canc => 0
def ph : O → Int
  | .wait _ => 1
  | .send _ _ _ _ => 2
  | .done => 3
  | .part _ => 4
  | .canc => 5
def ls : O → ByteArray
  | .send _ _ _ _ => CUP
  | _ => NO
def lu : O → Int
  | .send _ n _ _ => n
  | _ => 0
def lk : O → Int
  | .send _ _ k _ => k
  | _ => 0
def st : O → Int
  | .wait _ => 1
  | .send _ _ _ _ => 1
  | _ => 3
def en : O → Bool
  | .send _ _ _ e => e
  | _ => false
def isOpen : O → Bool
  | .wait _ => true
  | .send _ _ _ _ => true
  | _ => false
def VO (m : Int) : O → Prop
  | .wait d => 0 ≤ d ∧ d < m
  | .send d n k _ => (0 ≤ d ∧ d < m) ∧ (1 ≤ n ∧ n ≤ m - d) ∧ (1 ≤ k ∧ k ≤ 100)
  | .done => True
  | .part d => 0 < d ∧ d < m
  | .canc => True
theorem right_part (m d p : Int) (sp : Bool) (hm : 1 ≤ m ∧ m ≤ 50) (hp : 1 ≤ p ∧ p ≤ 50) (hd : 0 < d ∧ d < m) :
    order_Right.f 100 1 CUP 0 1 m d p 9 sp 4 NO 0 0 0 (m * p) (d * p) 100 3 0 0 false = some true := by
  rw [right_core m d p 4 3 0 0 0 NO hm hp (by omega) (by decide) (by decide), if_neg (by decide), if_neg (by decide), if_neg (by decide), if_pos rfl]
  unfold order_phases_4.f order_ended.f
  have e : decide (d < m) = true := decide_eq_true hd.2
  have e2 : d > 0 := hd.1
  simp only [if_pos e2, e]
  rfl
theorem right_canc (m p : Int) (sp : Bool) (hm : 1 ≤ m ∧ m ≤ 50) (hp : 1 ≤ p ∧ p ≤ 50) :
    order_Right.f 100 1 CUP 0 1 m 0 p 9 sp 5 NO 0 0 0 (m * p) (0 * p) 100 3 0 0 false = some true := by
  rw [right_core m 0 p 5 3 0 0 0 NO hm hp (by omega) (by decide) (by decide), if_neg (by decide), if_neg (by decide), if_neg (by decide), if_neg (by decide)]
  rfl
theorem rightO (m p : Int) (sp : Bool) (o : O) (hm : 1 ≤ m ∧ m ≤ 50) (hp : 1 ≤ p ∧ p ≤ 50) (ho : VO m o) :
    order_Right.f 100 1 CUP 0 1 m (dn m o) p 9 sp (ph o) (ls o) (lu o) (lu o) (lk o) (m * p) (dn m o * p) 100 (st o) 0 0 (en o) = some true := by
  cases o with
  | wait d => exact right_wait m d p sp hm hp ho
  | send d n k e => exact right_send m d p n k sp e hm hp ho.1 ho.2.1 ho.2.2
  | done => exact right_done m p sp hm hp
  | part d => exact right_part m d p sp hm hp ho
  | canc => exact right_canc m p sp hm hp
theorem openO (m p : Int) (sp : Bool) (o : O) (hm : 1 ≤ m ∧ m ≤ 50) (hp : 1 ≤ p ∧ p ≤ 50) (ho : VO m o) :
    order_Open.f 100 1 CUP 0 1 m (dn m o) p 9 sp (ph o) (ls o) (lu o) (lu o) (lk o) (m * p) (dn m o * p) 100 (st o) 0 0 (en o) = some (isOpen o) := by
  unfold order_Open.f
  rw [rightO m p sp o hm hp ho]
  cases o <;> rfl
theorem lackO (m p : Int) (sp : Bool) (o : O) (hm : 1 ≤ m ∧ m ≤ 50) (hp : 1 ≤ p ∧ p ≤ 50) (ho : VO m o) :
    order_Lack.f 100 1 CUP 0 1 m (dn m o) p 9 sp (ph o) (ls o) (lu o) (lu o) (lk o) (m * p) (dn m o * p) 100 (st o) 0 0 (en o) = some (wrap64 (m - dn m o)) := by
  unfold order_Lack.f
  rw [rightO m p sp o hm hp ho]
  rfl
def camed (m : Int) : O → Option O
  | .send d n _ e => some (if d + n = m then .done else if e = true then .part (d + n) else .wait (d + n))
  | _ => none
theorem cameO (m p : Int) (sp : Bool) (o : O) (hm : 1 ≤ m ∧ m ≤ 50) (hp : 1 ≤ p ∧ p ≤ 50) (ho : VO m o) :
    order_Came.f 100 1 CUP 0 1 m (dn m o) p 9 sp (ph o) (ls o) (lu o) (lu o) (lk o) (m * p) (dn m o * p) 100 (st o) 0 0 (en o) =
      match camed m o with
      | some o' => some (1, CUP, 0, 1, m, dn m o', p, 9, sp, ph o', ls o', lu o', lu o', lk o', m * p, dn m o' * p, 100, st o', 0, 0, en o', lu o * p, 0)
      | none => some (0, NO, 0, 0, 0, 0, 0, 0, false, 0, NO, 0, 0, 0, 0, 0, 0, 0, 0, 0, false, 0, 10) := by
  have hr := rightO m p sp o hm hp ho
  cases o with
  | send d n key e =>
    obtain ⟨hd, hn, hk⟩ := ho
    simp only [dn, ph, ls, lu, lk, st, en, camed] at hr ⊢
    obtain ⟨q1, q2⟩ := mul_le (a := m) (b := p) (c := 50) (d := 50) (by omega) (by omega) (by omega) (by omega)
    obtain ⟨q3, q4⟩ := mul_le (a := d) (b := p) (c := m) (d := p) (by omega) (by omega) (by omega) (by omega)
    obtain ⟨q5, q6⟩ := mul_le (a := n) (b := p) (c := m - d) (d := p) (by omega) (by omega) (by omega) (by omega)
    have q7 : (m - d) * p = m * p - d * p := Int.sub_mul _ _ _
    have q8 : (d + n) * p = d * p + n * p := Int.add_mul _ _ _
    have hw : wrap64 (n * p) = n * p := wrap64_id (by omega) (by omega)
    have hw2 : wrap64 (d + n) = d + n := wrap64_id (by omega) (by omega)
    unfold order_Came.f
    rw [hr]
    simp only [Option.bind_some, if_true, hw, hw2]
    have hc : pay_Catch.f (m * p) (d * p) 100 1 (n * p) = some (m * p, (d + n) * p, 100, 1, 0) := by
      rw [catch_tells, if_pos ⟨q5, by unfold Rt; omega⟩, if_neg (by decide), if_pos (by omega), q8]
    rw [hc]
    simp only [Option.bind_some]
    have hcl : pay_Close.f (m * p) ((d + n) * p) 100 1 = some (m * p, (d + n) * p, 100, 3, 0) := by
      unfold pay_Close.f
      rw [right_tells, decide_eq_true (by unfold Rt; omega)]
      rfl
    by_cases h : d + n = m
    · rw [if_pos h, if_pos h]
      unfold order_over.f
      rw [hcl, h]
      rfl
    · rw [if_neg h, if_neg h]
      cases e
      · rfl
      · unfold order_over.f
        rw [hcl]
        rfl
  | wait d => unfold order_Came.f; rw [hr]; rfl
  | done => unfold order_Came.f; rw [hr]; rfl
  | part d => unfold order_Came.f; rw [hr]; rfl
  | canc => unfold order_Came.f; rw [hr]; rfl
def endedO : O → Option O
  | .wait d => some (if d > 0 then .part d else .canc)
  | .send d n k false => some (.send d n k true)
  | _ => none
theorem endO (m p : Int) (sp : Bool) (o : O) (hm : 1 ≤ m ∧ m ≤ 50) (hp : 1 ≤ p ∧ p ≤ 50) (ho : VO m o) :
    order_End.f 100 1 CUP 0 1 m (dn m o) p 9 sp (ph o) (ls o) (lu o) (lu o) (lk o) (m * p) (dn m o * p) 100 (st o) 0 0 (en o) =
      match endedO o with
      | some o' => some (1, CUP, 0, 1, m, dn m o', p, 9, sp, ph o', ls o', lu o', lu o', lk o', m * p, dn m o' * p, 100, st o', 0, 0, en o', 0)
      | none => some (0, NO, 0, 0, 0, 0, 0, 0, false, 0, NO, 0, 0, 0, 0, 0, 0, 0, 0, 0, false, 10) := by
  have hr := rightO m p sp o hm hp ho
  have hop := openO m p sp o hm hp ho
  unfold order_End.f
  rw [hr, hop]
  simp only [Option.bind_some, if_true]
  cases o with
  | wait d =>
    obtain ⟨h1, h2⟩ := ho
    obtain ⟨q1, q2⟩ := mul_le (a := m) (b := p) (c := 50) (d := 50) (by omega) (by omega) (by omega) (by omega)
    obtain ⟨q3, q4⟩ := mul_le (a := d) (b := p) (c := m) (d := p) (by omega) (by omega) (by omega) (by omega)
    have hcl0 : pay_Close.f (m * p) (d * p) 100 1 = some (m * p, d * p, 100, 3, 0) := by
      unfold pay_Close.f
      rw [right_tells, decide_eq_true (by unfold Rt; omega)]
      rfl
    have hcl : pay_Close.f (m * p) (dn m (O.wait d) * p) 100 (st (O.wait d)) = some (m * p, d * p, 100, 3, 0) := hcl0
    rw [if_pos (show isOpen (O.wait d) = true from rfl), if_neg (show ¬ en (O.wait d) = true from Bool.false_ne_true), if_neg (show ¬ ph (O.wait d) = 2 from (by decide : ¬ (1 : Int) = 2))]
    by_cases h : d > 0
    · have e : endedO (.wait d) = some (.part d) := by simp only [endedO, if_pos h]
      rw [if_pos (show dn m (O.wait d) > 0 from h), e]
      unfold order_over.f
      rw [hcl]
      rfl
    · have e : endedO (.wait d) = some .canc := by simp only [endedO, if_neg h]
      have h0 : d = 0 := by omega
      rw [if_neg (show ¬ dn m (O.wait d) > 0 from h), e]
      unfold order_over.f
      rw [hcl]
      subst h0
      rfl
  | send d n k e => cases e <;> rfl
  | done => rfl
  | part d => rfl
  | canc => rfl
theorem sendO (m p n key : Int) (sp : Bool) (o : O) (hm : 1 ≤ m ∧ m ≤ 50) (hp : 1 ≤ p ∧ p ≤ 50) (ho : VO m o) (hn : n = 0) :
    ∃ e, e ≠ 0 ∧ order_Send.f 100 1 CUP 0 1 m (dn m o) p 9 sp (ph o) (ls o) (lu o) (lu o) (lk o) (m * p) (dn m o * p) 100 (st o) 0 0 (en o) CUP n n key = some (0, NO, 0, 0, 0, 0, 0, 0, false, 0, NO, 0, 0, 0, 0, 0, 0, 0, 0, 0, false, e) := by
  have hr := rightO m p sp o hm hp ho
  subst hn
  cases o with
  | wait d =>
    obtain ⟨h1, h2⟩ := ho
    refine ⟨1, by decide, ?_⟩
    have hb : order_Right.f 100 1 CUP 0 1 m d p 9 sp 2 CUP 0 0 key (m * p) (d * p) 100 1 0 0 false = some false := by
      rw [right_core m d p 2 1 0 0 key CUP hm hp (by omega) (by decide) (by decide), if_neg (by decide), if_pos rfl]
      unfold order_phases_2.f order_sent.f
      rw [oin_tells, name_tells]
      simp only [Option.bind_some, beq_self_eq_true, if_true]
      rfl
    simp only [dn, ph, ls, lu, lk, st, en] at hr ⊢
    unfold order_Send.f
    rw [hr, hb]
    rfl
  | send d n k e => exact ⟨10, by decide, by unfold order_Send.f; rw [hr]; rfl⟩
  | done => exact ⟨10, by decide, by unfold order_Send.f; rw [hr]; rfl⟩
  | part d => exact ⟨10, by decide, by unfold order_Send.f; rw [hr]; rfl⟩
  | canc => exact ⟨10, by decide, by unfold order_Send.f; rw [hr]; rfl⟩
theorem wantsO (m p f : Int) (sp : Bool) (o : O) (hm : 1 ≤ m ∧ m ≤ 50) (hp : 1 ≤ p ∧ p ≤ 50) (ho : VO m o) :
    ∃ n, order_Wants.f 100 1 CUP 0 1 m (dn m o) p 9 sp (ph o) (ls o) (lu o) (lu o) (lk o) (m * p) (dn m o * p) 100 (st o) 0 0 (en o) f 5 = some n ∧ (n = 0 ∨ ∃ d, o = .wait d ∧ 1 ≤ n ∧ n ≤ f ∧ n ≤ m - d ∧ (sp = false → n = m - d)) := by
  cases o with
  | wait d =>
    obtain ⟨h1, h2⟩ := ho
    have hw := wants_tells m d p f sp hm hp ⟨h1, h2⟩
    refine ⟨_, hw, ?_⟩
    split
    · exact .inl rfl
    · split
      · cases sp
        · exact .inl rfl
        · exact .inr ⟨d, rfl, by simp; omega, by simp, by simp; omega, by simp⟩
      · exact .inr ⟨d, rfl, by omega, by omega, by omega, fun _ => rfl⟩
  | send d n k e =>
    have hl := lackO m p sp (.send d n k e) hm hp ho
    exact ⟨0, by unfold order_Wants.f; rw [hl]; rfl, .inl rfl⟩
  | done =>
    have hl := lackO m p sp .done hm hp ho
    exact ⟨0, by unfold order_Wants.f; rw [hl]; rfl, .inl rfl⟩
  | part d =>
    have hl := lackO m p sp (.part d) hm hp ho
    exact ⟨0, by unfold order_Wants.f; rw [hl]; rfl, .inl rfl⟩
  | canc =>
    have hl := lackO m p sp .canc hm hp ho
    exact ⟨0, by unfold order_Wants.f; rw [hl]; rfl, .inl rfl⟩
theorem dn_le {m : Int} {o : O} (hm : 1 ≤ m) (ho : VO m o) : 0 ≤ dn m o ∧ dn m o ≤ m := by
  cases o <;> simp only [dn, VO] at ho ⊢ <;> omega
theorem same_bytes (b : ByteArray) : (b == b) = true := by rw [beq_toListBytes]; simp
/-- Behind an act. -/
theorem j33_goes (a0 a1 m p i : Int) (sp sp' cut q1 q2 : Bool) (o o' : O) (rec_ : Bool → Int → Bool → Int → Int → ByteArray → Int → Int → Int → Int → Int → Int → Bool → Int → ByteArray → Int → Int → Int → Int → Int → Int → Int → Int → Int → Bool → Option Bool)
    (hM : wrap64 (1 + ((wrap64 ((a0.tmod 50) + 50)).tmod 50)) = m) (hP : wrap64 (1 + ((wrap64 ((a1.tmod 50) + 50)).tmod 50)) = p) (hm : 1 ≤ m ∧ m ≤ 50) (hp : 1 ≤ p ∧ p ≤ 50) (ho : VO m o) (ho' : VO m o') (hs : isOpen o = false → o' = o) (hi : 0 ≤ i ∧ i < 30)
    (h : rec_ sp' (dn m o' * p) cut (i + 1) 1 CUP 0 1 m (dn m o') p 9 sp (ph o') (ls o') (lu o') (lu o') (lk o') (m * p) (dn m o' * p) 100 (st o') 0 0 (en o') = some true) :
    tarrylaw13_OrderEnds.j33 100 rec_ a0 a1 i 1 0 1 m (dn m o) p 9 (ph o) (lu o) (lu o) (lk o) (m * p) (dn m o * p) 100 (st o) 0 0 sp (en o) CUP (ls o) sp' (dn m o' * p) cut q1 q2 1 CUP 0 1 m (dn m o') p 9 sp (ph o') (ls o') (lu o') (lu o') (lk o') (m * p) (dn m o' * p) 100 (st o') 0 0 (en o') = some true := by
  obtain ⟨d1, d2⟩ := dn_le hm.1 ho'
  obtain ⟨r1, r2⟩ := mul_le (a := dn m o') (b := p) (c := 50) (d := 50) (by omega) (by omega) (by omega) (by omega)
  have hw : wrap64 (dn m o' * p) = dn m o' * p := wrap64_id (by omega) (by omega)
  have hw3 : wrap64 (i + 1) = i + 1 := wrap64_id (by omega) (by omega)
  unfold tarrylaw13_OrderEnds.j33
  rw [rightO m p sp o' hm hp ho', openO m p sp o hm hp ho, hM, hP, hw, hw3]
  simp only [Option.bind_some, if_true]
  rw [if_neg (by omega)]
  cases hop : isOpen o with
  | true => rw [if_pos rfl]; exact h
  | false =>
    obtain rfl := hs hop
    rw [if_neg (by decide), if_pos (by simp only [beq_self_eq_true, same_bytes, Bool.and_self])]
    exact h
/-- The end. -/
theorem j35_goes (a0 m p : Int) (sp : Bool) (o : O) (hM : wrap64 (1 + ((wrap64 ((a0.tmod 50) + 50)).tmod 50)) = m) (hm : 1 ≤ m ∧ m ≤ 50) (hp : 1 ≤ p ∧ p ≤ 50) (ho : VO m o) (he : isOpen o = false ∨ ∃ d n k, o = .send d n k true) :
    tarrylaw13_OrderEnds.j35 100 a0 1 CUP 0 1 m (dn m o) p 9 sp (ph o) (ls o) (lu o) (lu o) (lk o) (m * p) (dn m o * p) 100 (st o) 0 0 (en o) = some true := by
  have fin : ∀ o : O, VO m o → isOpen o = false → st o = 3 ∧ (ph o == 3) = (dn m o == m) ∧ ((ph o == 5) == (dn m o == 0)) = true := by
    intro o ho h
    cases o with
    | wait d => cases h
    | send d n k e => cases h
    | done =>
      have : (m == 0) = false := by simp; omega
      simp [st, ph, dn, this]
    | part d =>
      simp only [VO] at ho
      have e1 : (d == m) = false := by simp; omega
      have e2 : (d == 0) = false := by simp; omega
      simp [st, ph, dn, e1, e2]
    | canc =>
      have e1 : ((0 : Int) == m) = false := by simp; omega
      simp [st, ph, dn, e1]
  unfold tarrylaw13_OrderEnds.j35
  rw [cameO m p sp o hm hp ho]
  rcases he with he | ⟨d, n, k, rfl⟩
  · have hc : camed m o = none := by cases o <;> first | rfl | cases he
    obtain ⟨f1, f2, f3⟩ := fin o ho he
    have hq := openO m p sp o hm hp ho
    rw [hc]
    simp only [Option.bind_some]
    rw [if_neg (show ¬ (10 : Int) = 0 by decide), alive_tells]
    simp only [Option.bind_some, if_true]
    rw [hq, he]
    simp only [Option.bind_some, Bool.false_eq_true, if_false]
    rw [if_pos f1, hM, if_pos f2, f3]
  · obtain ⟨h1, h2, h3⟩ := ho
    have hv : VO m (if d + n = m then .done else .part (d + n)) := by
      split
      · trivial
      · simp only [VO]
        omega
    have hop : isOpen (if d + n = m then .done else .part (d + n)) = false := by split <;> rfl
    obtain ⟨f1, f2, f3⟩ := fin _ hv hop
    have hq := openO m p sp _ hm hp hv
    simp only [camed, if_true]
    generalize (if d + n = m then O.done else .part (d + n)) = o2 at hv hop f1 f2 f3 hq
    simp only [Option.bind_some]
    rw [if_pos trivial, alive_tells]
    simp only [Option.bind_some, if_true]
    rw [hq, hop]
    simp only [Option.bind_some, Bool.false_eq_true, if_false]
    rw [if_pos f1, hM, if_pos f2, f3]
theorem j26_goes (a0 m p : Int) (sp cut : Bool) (o : O) (hM : wrap64 (1 + ((wrap64 ((a0.tmod 50) + 50)).tmod 50)) = m) (hm : 1 ≤ m ∧ m ≤ 50) (hp : 1 ≤ p ∧ p ≤ 50) (ho : VO m o) (he : cut = true → isOpen o = false ∨ ∃ d n k, o = .send d n k true) :
    tarrylaw13_OrderEnds.j26 100 a0 cut 1 CUP 0 1 m (dn m o) p 9 sp (ph o) (ls o) (lu o) (lu o) (lk o) (m * p) (dn m o * p) 100 (st o) 0 0 (en o) = some true := by
  unfold tarrylaw13_OrderEnds.j26
  cases cut with
  | true => rw [if_pos rfl]; exact j35_goes a0 m p sp o hM hm hp ho (he rfl)
  | false =>
    rw [if_neg (by decide), endO m p sp o hm hp ho]
    cases hq : endedO o with
    | none =>
      simp only [Option.bind_some]
      rw [if_neg (by decide)]
      refine j35_goes a0 m p sp o hM hm hp ho ?_
      cases o with
      | wait d => cases hq
      | send d n k e => cases e with
        | true => exact .inr ⟨d, n, k, rfl⟩
        | false => cases hq
      | done => exact .inl rfl
      | part d => exact .inl rfl
      | canc => exact .inl rfl
    | some o' =>
      simp only [Option.bind_some, if_true]
      refine j35_goes a0 m p sp o' hM hm hp ?_ ?_
      · cases o with
        | wait d => simp only [endedO, Option.some.injEq] at hq; subst hq; simp only [VO] at ho; split <;> simp only [VO] <;> omega
        | send d n k e => cases e with
          | false => simp only [endedO, Option.some.injEq] at hq; subst hq; exact ho
          | true => cases hq
        | done => cases hq
        | part d => cases hq
        | canc => cases hq
      · cases o with
        | wait d => simp only [endedO, Option.some.injEq] at hq; subst hq; left; split <;> rfl
        | send d n k e => cases e with
          | false => simp only [endedO, Option.some.injEq] at hq; subst hq; exact .inr ⟨_, _, _, rfl⟩
          | true => cases hq
        | done => cases hq
        | part d => cases hq
        | canc => cases hq
theorem sendW (m d p n key : Int) (sp : Bool) (hm : 1 ≤ m ∧ m ≤ 50) (hp : 1 ≤ p ∧ p ≤ 50) (hd : 0 ≤ d ∧ d < m) (hn : 1 ≤ n ∧ n ≤ m - d) (hk : 1 ≤ key ∧ key ≤ 100) :
    order_Send.f 100 1 CUP 0 1 m (dn m (O.wait d)) p 9 sp (ph (O.wait d)) (ls (O.wait d)) (lu (O.wait d)) (lu (O.wait d)) (lk (O.wait d)) (m * p) (dn m (O.wait d) * p) 100 (st (O.wait d)) 0 0 (en (O.wait d)) CUP n n key =
      some (1, CUP, 0, 1, m, dn m (O.send d n key false), p, 9, sp, ph (O.send d n key false), ls (O.send d n key false), lu (O.send d n key false), lu (O.send d n key false), lk (O.send d n key false), m * p, dn m (O.send d n key false) * p, 100, st (O.send d n key false), 0, 0, en (O.send d n key false), 0) :=
  send_tells m d p n key sp hm hp hd hn hk
def CutOk (cut : Bool) (o : O) : Prop := cut = true → isOpen o = false ∨ ∃ d n k, o = .send d n k true
theorem camed_ok {m : Int} {o o' : O} {cut : Bool} (ho : VO m o) (hc : CutOk cut o) (h : camed m o = some o') : VO m o' ∧ dn m o' = dn m o + lu o ∧ isOpen o = true ∧ CutOk cut o' := by
  cases o with
  | send d n k e =>
    simp only [camed, Option.some.injEq] at h
    subst h
    obtain ⟨h1, h2, h3⟩ := ho
    by_cases q : d + n = m
    · rw [if_pos q]
      exact ⟨trivial, q.symm, rfl, fun _ => .inl rfl⟩
    · rw [if_neg q]
      cases e with
      | true => exact ⟨⟨by omega, by omega⟩, rfl, rfl, fun _ => .inl rfl⟩
      | false =>
        refine ⟨⟨by omega, by omega⟩, rfl, rfl, fun hcut => ?_⟩
        rcases hc hcut with hx | ⟨_, _, _, hx⟩
        · cases hx
        · cases hx
  | wait d => cases h
  | done => cases h
  | part d => cases h
  | canc => cases h
theorem ended_ok {m : Int} {o o' : O} (ho : VO m o) (h : endedO o = some o') : VO m o' ∧ dn m o' = dn m o ∧ isOpen o = true ∧ CutOk true o' := by
  cases o with
  | wait d =>
    simp only [endedO, Option.some.injEq] at h
    subst h
    simp only [VO] at ho
    by_cases q : d > 0
    · rw [if_pos q]
      exact ⟨⟨q, ho.2⟩, rfl, rfl, fun _ => .inl rfl⟩
    · rw [if_neg q]
      exact ⟨trivial, (show (0 : Int) = d by omega), rfl, fun _ => .inl rfl⟩
  | send d n k e => cases e with
    | false =>
      simp only [endedO, Option.some.injEq] at h
      subst h
      exact ⟨ho, rfl, rfl, fun _ => .inr ⟨_, _, _, rfl⟩⟩
    | true => cases h
  | done => cases h
  | part d => cases h
  | canc => cases h
theorem ends_loop (a0 a1 m p : Int) (sp : Bool) (l : List S52) (hM : wrap64 (1 + ((wrap64 ((a0.tmod 50) + 50)).tmod 50)) = m) (hP : wrap64 (1 + ((wrap64 ((a1.tmod 50) + 50)).tmod 50)) = p) (hm : 1 ≤ m ∧ m ≤ 50) (hp : 1 ≤ p ∧ p ≤ 50) (r : Nat) : ∀ (ml : Nat) (i : Int) (cut : Bool) (o : O), 0 ≤ i → i ≤ 30 → (30 - i).toNat = r → r < ml → VO m o → CutOk cut o →
    tarrylaw13_OrderEnds.l27 100 a0 a1 l ml sp (dn m o * p) cut i 1 CUP 0 1 m (dn m o) p 9 sp (ph o) (ls o) (lu o) (lu o) (lk o) (m * p) (dn m o * p) 100 (st o) 0 0 (en o) = some true := by
  induction r with
  | zero =>
    intro ml i cut o h0 h1 h2 h3 ho hc
    obtain ⟨ml, rfl⟩ : ∃ q, ml = q + 1 := ⟨ml - 1, by omega⟩
    simp only [tarrylaw13_OrderEnds.l27]
    by_cases hlt : i < (l.length : Int)
    · obtain ⟨x, hx⟩ : ∃ x, l[i.toNat]? = some x := ⟨_, List.getElem?_eq_getElem (by omega)⟩
      rw [if_pos hlt, if_pos h0, hx, Option.bind_some, if_pos (by omega)]
      exact j26_goes a0 m p sp cut o hM hm hp ho hc
    · rw [if_neg hlt]
      exact j26_goes a0 m p sp cut o hM hm hp ho hc
  | succ r ih =>
    intro ml i cut o h0 h1 h2 h3 ho hc
    obtain ⟨ml, rfl⟩ : ∃ q, ml = q + 1 := ⟨ml - 1, by omega⟩
    have hw3 : wrap64 (i + 1) = i + 1 := wrap64_id (by omega) (by omega)
    have next : ∀ (cut' : Bool) (o' : O), VO m o' → CutOk cut' o' → tarrylaw13_OrderEnds.l27 100 a0 a1 l ml sp (dn m o' * p) cut' (i + 1) 1 CUP 0 1 m (dn m o') p 9 sp (ph o') (ls o') (lu o') (lu o') (lk o') (m * p) (dn m o' * p) 100 (st o') 0 0 (en o') = some true :=
      fun cut' o' ho' hc' => ih ml (i + 1) cut' o' (by omega) (by omega) (by omega) (by omega) ho' hc'
    simp only [tarrylaw13_OrderEnds.l27]
    by_cases hlt : i < (l.length : Int)
    · obtain ⟨x, hx⟩ : ∃ x, l[i.toNat]? = some x := ⟨_, List.getElem?_eq_getElem (by omega)⟩
      rw [if_pos hlt, if_pos h0, hx, Option.bind_some, if_neg (by omega)]
      generalize (wrap64 ((x.f0.tmod 3) + 3)).tmod 3 = kind
      by_cases k0 : kind = 0
      · rw [if_pos k0]
        obtain ⟨n, hw, hn⟩ := wantsO m p x.f1 sp o hm hp ho
        rw [hw]
        simp only [Option.bind_some]
        rcases hn with rfl | ⟨d, rfl, n1, n2, n3, n4⟩
        · rw [if_neg (by decide)]
          obtain ⟨e, he, hs⟩ := sendO m p 0 (wrap64 (i + 1)) sp o hm hp ho rfl
          rw [hs]
          simp only [Option.bind_some]
          rw [if_neg he, if_neg (by decide)]
          exact j33_goes a0 a1 m p i sp sp cut true true o o _ hM hP hm hp ho ho (fun _ => rfl) (by omega) (next cut o ho hc)
        · have hv : VO m (.send d n (i + 1) false) := ⟨ho, ⟨n1, n3⟩, by omega, by omega⟩
          have hcut : CutOk cut (.send d n (i + 1) false) := by
            intro hcut
            rcases hc hcut with hx | ⟨_, _, _, hx⟩
            · cases hx
            · cases hx
          have hlk := lackO m p sp (.wait d) hm hp ho
          have hwl : wrap64 (m - dn m (O.wait d)) = m - d := wrap64_id (show _ ≤ m - d by simp only [VO] at ho; omega) (show m - d ≤ _ by simp only [VO] at ho; omega)
          rw [if_pos (show n > 0 by omega), if_neg (by omega), hlk, hwl]
          simp only [Option.bind_some]
          rw [if_neg (by omega), hw3, sendW m d p n (i + 1) sp hm hp ho ⟨n1, n3⟩ (by omega)]
          simp only [Option.bind_some]
          cases sp with
          | true =>
            rw [if_pos rfl, if_pos trivial]
            exact j33_goes a0 a1 m p i true true cut true true (.wait d) (.send d n (i + 1) false) _ hM hP hm hp ho hv (fun h => by cases h) (by omega) (next cut _ hv hcut)
          | false =>
            rw [if_neg (by decide), if_pos (n4 rfl), if_pos trivial]
            exact j33_goes a0 a1 m p i false false cut true true (.wait d) (.send d n (i + 1) false) _ hM hP hm hp ho hv (fun h => by cases h) (by omega) (next cut _ hv hcut)
      · rw [if_neg k0]
        by_cases k1 : kind = 1
        · rw [if_pos k1, cameO m p sp o hm hp ho]
          cases hq : camed m o with
          | none =>
            simp only [Option.bind_some]
            rw [if_neg (show ¬ (10 : Int) = 0 by decide)]
            exact j33_goes a0 a1 m p i sp sp cut false false o o _ hM hP hm hp ho ho (fun _ => rfl) (by omega) (next cut o ho hc)
          | some o' =>
            obtain ⟨v1, v2, v3, v4⟩ := camed_ok ho hc hq
            obtain ⟨d1, d2⟩ := dn_le hm.1 v1
            obtain ⟨r1, r2⟩ := mul_le (a := dn m o') (b := p) (c := 50) (d := 50) (by omega) (by omega) (by omega) (by omega)
            have hsum : wrap64 (dn m o * p + lu o * p) = dn m o' * p := by rw [← Int.add_mul, ← v2]; exact wrap64_id (by omega) (by omega)
            simp only [Option.bind_some]
            rw [if_pos trivial, hsum]
            exact j33_goes a0 a1 m p i sp sp cut false false o o' _ hM hP hm hp ho v1 (fun h => by rw [h] at v3; cases v3) (by omega) (next cut o' v1 v4)
        · rw [if_neg k1, endO m p sp o hm hp ho]
          cases hq : endedO o with
          | none =>
            simp only [Option.bind_some]
            rw [if_neg (show ¬ (10 : Int) = 0 by decide)]
            exact j33_goes a0 a1 m p i sp sp cut false false o o _ hM hP hm hp ho ho (fun _ => rfl) (by omega) (next cut o ho hc)
          | some o' =>
            obtain ⟨v1, v2, v3, v4⟩ := ended_ok ho hq
            simp only [Option.bind_some]
            rw [if_pos trivial]
            have := j33_goes a0 a1 m p i sp sp true false false o o' _ hM hP hm hp ho v1 (fun h => by rw [h] at v3; cases v3) (by omega) (next true o' v1 v4)
            rw [v2] at this ⊢
            exact this
    · rw [if_neg hlt]
      exact j26_goes a0 m p sp cut o hM hm hp ho hc
theorem fifty (x : Int) : ∃ m, wrap64 (1 + ((wrap64 ((x.tmod 50) + 50)).tmod 50)) = m ∧ 1 ≤ m ∧ m ≤ 50 := by
  have h1 : -50 < x.tmod 50 ∧ x.tmod 50 < 50 := ⟨Int.lt_tmod_of_pos x (by decide), Int.tmod_lt_of_pos x (by decide)⟩
  have h2 : wrap64 ((x.tmod 50) + 50) = (x.tmod 50) + 50 := wrap64_id (by omega) (by omega)
  have h3 : 0 ≤ ((x.tmod 50) + 50).tmod 50 ∧ ((x.tmod 50) + 50).tmod 50 ≤ 49 := by
    rw [Int.tmod_eq_emod_of_nonneg (by omega)]
    omega
  exact ⟨_, rfl, by rw [h2, wrap64_id (by omega) (by omega)]; omega, by rw [h2, wrap64_id (by omega) (by omega)]; omega⟩
theorem OrderEnds : tarrylaw13_OrderEnds.Pure := by
  intro a0 a1 sp l _ _ _
  obtain ⟨m, hM, hm⟩ := fifty a0
  obtain ⟨p, hP, hp⟩ := fifty a1
  refine ⟨100, ?_⟩
  unfold tarrylaw13_OrderEnds.f
  rw [hM, hP, onew_tells m p sp hm hp]
  simp only [Option.bind_some, if_true]
  have := ends_loop a0 a1 m p sp l hM hP hm hp 30 100 0 false (.wait 0) (by decide) (by decide) (by decide) (by decide) ⟨by omega, by omega⟩ (fun h => by cases h)
  simp only [dn, ph, ls, lu, lk, st, en, Int.zero_mul] at this
  exact this
end Go.Proofs.Ytlmpfogfgefngaa.Pure
