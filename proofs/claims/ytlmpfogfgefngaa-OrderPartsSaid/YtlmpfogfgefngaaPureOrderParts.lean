/- OrderParts: by whatever parts an order is sent that may be sent in parts, it comes to the same end: the statement's Go function answers true at every input; no further condition. -/
import Derived.Test.YtlmpfogfgefngaaGOrderPartsx0
namespace Go.Proofs.Ytlmpfogfgefngaa.Pure
open Go Go.RowKit Go.Proofs.Ytlmpfogfgefngaa.GOrderParts Go.Proofs.Ytlmpfogfgefngaa.POrderParts Go.Proofs.YtlmpfogfgefngaaV
set_option linter.unusedSimpArgs false
theorem wf64 {a : Int} (h : (Lit.int .i64 a).wf = true) : -9223372036854775808 ≤ a ∧ a ≤ 9223372036854775807 := by
  simpa [Lit.wf, IntKind.min, IntKind.max, IntKind.signed, IntKind.bits] using h
theorem wrap64_id {a : Int} (h : -9223372036854775808 ≤ a) (h' : a ≤ 9223372036854775807) : wrap64 a = a := by
  unfold wrap64
  omega
theorem u64_wrap (x : Int) : IntKind.u64.wrap x = x % 18446744073709551616 := by simp [IntKind.wrap, IntKind.bits, IntKind.signed]
theorem may_tells (a : Int) : pack_may.f a = some (decide (-1152921504606846976 ≤ a ∧ a ≤ 1152921504606846976)) := by
  unfold pack_may.f
  split <;> simp <;> omega
theorem and_mask (x : Int) (h : 0 ≤ x) (h2 : x < 18446744073709551616) : Go.bits .and .u64 x 4294967295 = x % 4294967296 := by
  have := bits_mask .u64 64 (by decide) (by intro n h h'; simp [IntKind.wrap, IntKind.bits, IntKind.signed]; omega) 32 (by decide) x h (by simpa using h2)
  simpa using this

theorem mul_split (x y x1 x0 y1 y0 : Int) (hx : x = x1 * 4294967296 + x0) (hy : y = y1 * 4294967296 + y0) : x * y = x1 * y1 * 18446744073709551616 + (x1 * y0 + x0 * y1) * 4294967296 + x0 * y0 := by
  subst hx hy
  simp only [Int.add_mul, Int.mul_add]
  have e1 : x1 * 4294967296 * (y1 * 4294967296) = x1 * y1 * 18446744073709551616 := by
    rw [Int.mul_assoc, Int.mul_left_comm 4294967296 y1, ← Int.mul_assoc]
    rfl
  have e2 : x1 * 4294967296 * y0 = x1 * y0 * 4294967296 := Int.mul_right_comm ..
  have e3 : x0 * (y1 * 4294967296) = x0 * y1 * 4294967296 := (Int.mul_assoc ..).symm
  rw [e1, e2, e3]
  omega

theorem prod_le {a b c d : Int} (ha : 0 ≤ a) (hb : 0 ≤ b) (h1 : a ≤ c) (h2 : b ≤ d) : 0 ≤ a * b ∧ a * b ≤ c * d :=
  ⟨Int.mul_nonneg ha hb, Int.mul_le_mul h1 h2 hb (by omega)⟩

theorem mul64_tells (x y : Int) (hx : 0 ≤ x ∧ x ≤ 1152921504606846976) (hy : 0 ≤ y ∧ y ≤ 1152921504606846976) :
    bits_Mul64.f x y = some (x * y / 18446744073709551616, x * y % 18446744073709551616) := by
  unfold bits_Mul64.f
  have hs := mul_split x y (x / 4294967296) (x % 4294967296) (y / 4294967296) (y % 4294967296) (by omega) (by omega)
  have p11 := prod_le (a := x / 4294967296) (b := y / 4294967296) (c := 268435456) (d := 268435456) (by omega) (by omega) (by omega) (by omega)
  have p10 := prod_le (a := x / 4294967296) (b := y % 4294967296) (c := 268435456) (d := 4294967295) (by omega) (by omega) (by omega) (by omega)
  have p01 := prod_le (a := x % 4294967296) (b := y / 4294967296) (c := 4294967295) (d := 268435456) (by omega) (by omega) (by omega) (by omega)
  have p00 := prod_le (a := x % 4294967296) (b := y % 4294967296) (c := 4294967295) (d := 4294967295) (by omega) (by omega) (by omega) (by omega)
  simp only [and_mask x hx.1 (by omega), and_mask y hy.1 (by omega)]
  generalize x / 4294967296 * (y / 4294967296) = q11 at *
  generalize x / 4294967296 * (y % 4294967296) = q10 at *
  generalize x % 4294967296 * (y / 4294967296) = q01 at *
  generalize x % 4294967296 * (y % 4294967296) = q00 at *
  rw [hs]
  simp only [u64_wrap]
  have w0 : q00 % 18446744073709551616 = q00 := by omega
  have w1 : q10 % 18446744073709551616 = q10 := by omega
  have w2 : q01 % 18446744073709551616 = q01 := by omega
  have w3 : q11 % 18446744073709551616 = q11 := by omega
  rw [w0, w1, w2, w3]
  rw [and_mask _ (by omega) (by omega)]
  congr 2 <;> omega

theorem size_tells (a : Int) (h : -1152921504606846976 ≤ a ∧ a ≤ 1152921504606846976) : pack_size.f a = some (a.natAbs : Int) := by
  unfold pack_size.f
  split
  · rw [wrap64_id (by omega) (by omega), u64_wrap]
    congr 1
    omega
  · rw [u64_wrap]
    congr 1
    omega

theorem times_tells (k : Nat) (a b : Int) :
    pack_Times.f (k + 1) a b = some (if (-1152921504606846976 ≤ a ∧ a ≤ 1152921504606846976) ∧ (-1152921504606846976 ≤ b ∧ b ≤ 1152921504606846976) then (if -1152921504606846976 ≤ a * b ∧ a * b ≤ 1152921504606846976 then (a * b, 0) else (0, 2)) else (0, 1)) := by
  simp only [pack_Times.f, may_tells, Option.bind_some]
  by_cases h1 : -1152921504606846976 ≤ a ∧ a ≤ 1152921504606846976
  · by_cases h2 : -1152921504606846976 ≤ b ∧ b ≤ 1152921504606846976
    · simp only [pack_Times.j0, size_tells a h1, size_tells b h2, Option.bind_some, decide_eq_true h1, decide_eq_true h2, if_true, Bool.not_true]
      have h12 : (-1152921504606846976 ≤ a ∧ a ≤ 1152921504606846976) ∧ (-1152921504606846976 ≤ b ∧ b ≤ 1152921504606846976) := ⟨h1, h2⟩
      rw [mul64_tells _ _ ⟨by omega, by omega⟩ ⟨by omega, by omega⟩, if_pos h12]
      have e : (a.natAbs : Int) * (b.natAbs : Int) = ((a * b).natAbs : Int) := by rw [Int.natAbs_mul, Int.natCast_mul]
      simp only [Option.bind_some, Bool.false_eq_true, if_false]
      rw [e]
      generalize hp : a * b = p at *
      by_cases h3 : -1152921504606846976 ≤ p ∧ p ≤ 1152921504606846976
      · rw [if_neg (by omega), if_neg (by omega), if_pos h3, wrap64_id (by omega) (by omega)]
      · rw [if_neg h3]
        by_cases h4 : (p.natAbs : Int) / 18446744073709551616 > 0
        · rw [if_pos h4]
        · rw [if_neg h4, if_pos (by omega)]
    · simp [pack_Times.j0, h1, h2]
  · simp [pack_Times.j0, h1]
/-- Which money may be. -/
def Rt (a b c d : Int) : Prop := 0 ≤ a ∧ a ≤ 1125899906842624 ∧ 0 ≤ b ∧ b ≤ a ∧ 0 ≤ c ∧ c ≤ 1099511627776 ∧ 1 ≤ d ∧ d ≤ 3
instance (a b c d : Int) : Decidable (Rt a b c d) := by unfold Rt; exact inferInstance
theorem time_tells (a : Int) : pay_time.f a = some (decide (0 ≤ a ∧ a ≤ 1099511627776)) := by
  unfold pay_time.f
  split <;> simp <;> omega
theorem units_tells (a : Int) : pay_units.f a = some (decide (1 ≤ a ∧ a ≤ 1073741824)) := by
  unfold pay_units.f
  split <;> simp <;> omega
theorem right_tells (a b c d : Int) : pay_Right.f a b c d = some (decide (Rt a b c d)) := by
  unfold pay_Right.f Rt
  simp only [time_tells, Option.bind_some, decide_eq_true_eq]
  repeat' split
  all_goals (congr 1; first | (symm; apply decide_eq_true; omega) | (symm; apply decide_eq_false; omega) | (apply decide_eq_decide.2; omega))
theorem new_tells (k : Nat) (m p u : Int) : pay_New.f (k + 2) m p u = some (if 1 ≤ m ∧ m ≤ 1073741824 ∧ 1 ≤ p ∧ p ≤ 1073741824 ∧ 0 ≤ u ∧ u ≤ 1099511627776 then (if m * p > 1125899906842624 then (0, 0, 0, 0, 2) else (m * p, 0, u, 1, 0)) else (0, 0, 0, 0, 1)) := by
  simp only [pay_New.f, units_tells, time_tells, Option.bind_some, decide_eq_true_eq, pay_New.j0, times_tells]
  by_cases h1 : 1 ≤ m ∧ m ≤ 1073741824
  · by_cases h2 : 1 ≤ p ∧ p ≤ 1073741824
    · by_cases h3 : 0 ≤ u ∧ u ≤ 1099511627776
      · have h4 := prod_le (a := m) (b := p) (c := 1073741824) (d := 1073741824) (by omega) (by omega) h1.2 h2.2
        have h5 : m * p ≤ 1152921504606846976 := by omega
        have h6 : -1152921504606846976 ≤ m * p := by omega
        have h7 : -1152921504606846976 ≤ m ∧ m ≤ 1152921504606846976 := by omega
        have h8 : -1152921504606846976 ≤ p ∧ p ≤ 1152921504606846976 := by omega
        simp only [h1, h2, h3, h5, h6, h7, h8, true_and, and_true, and_self, if_true, Option.bind_some, decide_true, Bool.not_true, Bool.false_eq_true, if_false]
        split <;> rfl
      · have hn : ¬ (1 ≤ m ∧ m ≤ 1073741824 ∧ 1 ≤ p ∧ p ≤ 1073741824 ∧ 0 ≤ u ∧ u ≤ 1099511627776) := by omega
        rw [if_pos h1, if_pos h2]
        refine Eq.trans ?_ (congrArg some (if_neg hn).symm)
        simp only [h3, decide_false, Bool.not_false, if_true]
    · have hn : ¬ (1 ≤ m ∧ m ≤ 1073741824 ∧ 1 ≤ p ∧ p ≤ 1073741824 ∧ 0 ≤ u ∧ u ≤ 1099511627776) := by omega
      rw [if_pos h1, if_neg h2]
      refine Eq.trans ?_ (congrArg some (if_neg hn).symm)
      simp only [if_true]
  · have hn : ¬ (1 ≤ m ∧ m ≤ 1073741824 ∧ 1 ≤ p ∧ p ≤ 1073741824 ∧ 0 ≤ u ∧ u ≤ 1099511627776) := by omega
    rw [if_neg h1]
    refine Eq.trans ?_ (congrArg some (if_neg hn).symm)
    simp only [if_true]
/-- What is promised. -/
def newv (m p u : Int) : Int × Int × Int × Int × Int := if 1 ≤ m ∧ m ≤ 1073741824 ∧ 1 ≤ p ∧ p ≤ 1073741824 ∧ 0 ≤ u ∧ u ≤ 1099511627776 then (if m * p > 1125899906842624 then (0, 0, 0, 0, 2) else (m * p, 0, u, 1, 0)) else (0, 0, 0, 0, 1)
theorem newv_tells (k : Nat) (m p u : Int) : pay_New.f (k + 2) m p u = some (newv m p u) := new_tells k m p u
theorem catch_tells (a b c d n : Int) : pay_Catch.f a b c d n = some (if 0 ≤ n ∧ Rt a b c d then (if d = 3 then (0, 0, 0, 0, 10) else if n ≤ a - b then (a, b + n, c, d, 0) else (0, 0, 0, 0, 2)) else (0, 0, 0, 0, 1)) := by
  unfold pay_Catch.f
  simp only [right_tells, Option.bind_some, decide_eq_true_eq]
  by_cases h : n < 0
  · rw [if_pos h, if_neg (by omega)]
  · rw [if_neg h]
    by_cases h2 : Rt a b c d
    · have h3 : 0 ≤ n := by omega
      simp only [h2, h3, and_self, if_true]
      repeat' split
      all_goals rfl
    · rw [if_neg h2, if_neg (fun h => h2 h.2)]
abbrev CUP : ByteArray := ⟨#[99, 117, 112]⟩
abbrev NO : ByteArray := ⟨#[]⟩
theorem name_tells : order_name.f 100 CUP = some true := by decide +kernel
theorem wait_tells : queue_Right.f 100 [⟨0, 1, 1⟩] = some true := by decide +kernel
theorem alive_tells : tarrylaw13_alive.f 100 = some true := by decide +kernel
theorem oin_tells (a l m : Int) : Go.Proofs.Ytlmpfogfgefngaa.GOrderParts.order_in.f a l m = some (decide (l ≤ a ∧ a ≤ m)) := by
  unfold Go.Proofs.Ytlmpfogfgefngaa.GOrderParts.order_in.f
  split <;> simp <;> omega
theorem mul_le {a b c d : Int} (ha : 0 ≤ a) (hb : 0 ≤ b) (h1 : a ≤ c) (h2 : b ≤ d) : 0 ≤ a * b ∧ a * b ≤ c * d := ⟨Int.mul_nonneg ha hb, Int.mul_le_mul h1 h2 hb (by omega)⟩
/-- What an order is, at what it asks. -/
theorem right_core (m d p ph st lu lc lk : Int) (ls : ByteArray) (hm : 1 ≤ m ∧ m ≤ 50) (hp : 1 ≤ p ∧ p ≤ 50) (hd : 0 ≤ d ∧ d ≤ m) (hph : 1 ≤ ph ∧ ph ≤ 5) (hst : 1 ≤ st ∧ st ≤ 3) (sp en : Bool) :
    order_Right.f 100 1 CUP 0 1 m d p 9 sp ph ls lu lc lk (m * p) (d * p) 100 st 0 0 en =
      (if ph = 1 then order_phases_1.f 1 CUP 0 1 m d p 9 sp ph ls lu lc lk (m * p) (d * p) 100 st 0 0 en else if ph = 2 then order_phases_2.f 100 1 CUP 0 1 m d p 9 sp ph ls lu lc lk (m * p) (d * p) 100 st 0 0 en else if ph = 3 then order_phases_3.f 1 CUP 0 1 m d p 9 sp ph ls lu lc lk (m * p) (d * p) 100 st 0 0 en else if ph = 4 then order_phases_4.f 1 CUP 0 1 m d p 9 sp ph ls lu lc lk (m * p) (d * p) 100 st 0 0 en else order_phases_5.f 1 CUP 0 1 m d p 9 sp ph ls lu lc lk (m * p) (d * p) 100 st 0 0 en) := by
  obtain ⟨q1, q2⟩ := mul_le (a := m) (b := p) (c := 50) (d := 50) (by omega) (by omega) (by omega) (by omega)
  obtain ⟨q3, q4⟩ := mul_le (a := d) (b := p) (c := m) (d := p) (by omega) (by omega) (by omega) (by omega)
  have hw1 : wrap64 (m * p) = m * p := wrap64_id (by omega) (by omega)
  have hw2 : wrap64 (d * p) = d * p := wrap64_id (by omega) (by omega)
  have hpay : pay_Right.f (m * p) (d * p) 100 st = some true := by
    rw [right_tells]
    congr 1
    apply decide_eq_true
    unfold Rt
    omega
  have hask : ask_Right.f 0 0 = some true := by decide
  unfold order_Right.f
  simp only [oin_tells, Option.bind_some, decide_eq_true_eq]
  rw [if_pos hph, if_pos (by omega), if_pos (by omega), if_pos (by omega), if_pos (by omega)]
  unfold order_Right.j1
  rw [wait_tells, hpay, hw1, hw2]
  simp only [Option.bind_some, if_true, Bool.false_eq_true, if_false, beq_self_eq_true]
  unfold order_Right.j2
  rw [name_tells, hask]
  simp only [Option.bind_some, if_true, order_phases.f]
  rw [if_neg (show ¬ ph = 0 by omega)]
  by_cases h1 : ph = 1
  · rw [if_pos h1, if_pos h1]
    cases order_phases_1.f 1 CUP 0 1 m d p 9 sp ph ls lu lc lk (m * p) (d * p) 100 st 0 0 en <;> rfl
  · rw [if_neg h1, if_neg h1]
    by_cases h2 : ph = 2
    · rw [if_pos h2, if_pos h2]
      cases order_phases_2.f 100 1 CUP 0 1 m d p 9 sp ph ls lu lc lk (m * p) (d * p) 100 st 0 0 en <;> rfl
    · rw [if_neg h2, if_neg h2]
      by_cases h3 : ph = 3
      · rw [if_pos h3, if_pos h3]
        cases order_phases_3.f 1 CUP 0 1 m d p 9 sp ph ls lu lc lk (m * p) (d * p) 100 st 0 0 en <;> rfl
      · rw [if_neg h3, if_neg h3]
        by_cases h4 : ph = 4
        · rw [if_pos h4, if_pos h4]
          cases order_phases_4.f 1 CUP 0 1 m d p 9 sp ph ls lu lc lk (m * p) (d * p) 100 st 0 0 en <;> rfl
        · rw [if_neg h4, if_neg h4, if_pos (by omega)]
          cases order_phases_5.f 1 CUP 0 1 m d p 9 sp ph ls lu lc lk (m * p) (d * p) 100 st 0 0 en <;> rfl
theorem right_wait (m d p : Int) (sp : Bool) (hm : 1 ≤ m ∧ m ≤ 50) (hp : 1 ≤ p ∧ p ≤ 50) (hd : 0 ≤ d ∧ d < m) :
    order_Right.f 100 1 CUP 0 1 m d p 9 sp 1 NO 0 0 0 (m * p) (d * p) 100 1 0 0 false = some true := by
  rw [right_core m d p 1 1 0 0 0 NO hm hp (by omega) (by decide) (by decide), if_pos rfl]
  unfold order_phases_1.f
  rw [if_pos (by omega)]
  rfl
theorem right_send (m d p n key : Int) (sp en : Bool) (hm : 1 ≤ m ∧ m ≤ 50) (hp : 1 ≤ p ∧ p ≤ 50) (hd : 0 ≤ d ∧ d < m) (hn : 1 ≤ n ∧ n ≤ m - d) (hk : 1 ≤ key ∧ key ≤ 100) :
    order_Right.f 100 1 CUP 0 1 m d p 9 sp 2 CUP n n key (m * p) (d * p) 100 1 0 0 en = some true := by
  rw [right_core m d p 2 1 n n key CUP hm hp (by omega) (by decide) (by decide), if_neg (by decide), if_pos rfl]
  have hw : wrap64 (m - d) = m - d := wrap64_id (by omega) (by omega)
  have e1 : decide (1 ≤ n ∧ n ≤ 1073741824) = true := decide_eq_true (by omega)
  have e2 : decide (1 ≤ n ∧ n ≤ m - d) = true := decide_eq_true hn
  have e3 : decide (1 ≤ key ∧ key ≤ 1099511627776) = true := decide_eq_true (by omega)
  unfold order_phases_2.f order_sent.f
  rw [hw, oin_tells, oin_tells, oin_tells, e1, e2, e3, name_tells]
  simp only [Option.bind_some, beq_self_eq_true, if_true]
  rfl
theorem right_done (m p : Int) (sp : Bool) (hm : 1 ≤ m ∧ m ≤ 50) (hp : 1 ≤ p ∧ p ≤ 50) :
    order_Right.f 100 1 CUP 0 1 m m p 9 sp 3 NO 0 0 0 (m * p) (m * p) 100 3 0 0 false = some true := by
  rw [right_core m m p 3 3 0 0 0 NO hm hp (by omega) (by decide) (by decide), if_neg (by decide), if_neg (by decide), if_pos rfl]
  unfold order_phases_3.f order_ended.f
  simp only [beq_self_eq_true]
  rfl
theorem onew_tells (m p : Int) (sp : Bool) (hm : 1 ≤ m ∧ m ≤ 50) (hp : 1 ≤ p ∧ p ≤ 50) :
    order_New.f 100 1 CUP 0 1 m 0 p 9 sp 0 NO 0 0 0 0 0 0 0 0 0 false 100 = some (1, CUP, 0, 1, m, 0, p, 9, sp, 1, NO, 0, 0, 0, m * p, 0, 100, 1, 0, 0, false, 0) := by
  obtain ⟨q1, q2⟩ := mul_le (a := m) (b := p) (c := 50) (d := 50) (by omega) (by omega) (by omega) (by omega)
  unfold order_New.f
  rw [new_tells 98 m p 100, if_pos (by omega), if_neg (by omega)]
  simp only [Option.bind_some, if_true]
  have := right_wait m 0 p sp hm hp (by omega)
  rw [Int.zero_mul] at this
  rw [this]
  rfl
theorem lack_tells (m d p : Int) (sp : Bool) (hm : 1 ≤ m ∧ m ≤ 50) (hp : 1 ≤ p ∧ p ≤ 50) (hd : 0 ≤ d ∧ d < m) :
    order_Lack.f 100 1 CUP 0 1 m d p 9 sp 1 NO 0 0 0 (m * p) (d * p) 100 1 0 0 false = some (m - d) := by
  unfold order_Lack.f
  rw [right_wait m d p sp hm hp hd]
  simp only [Option.bind_some, if_true]
  rw [wrap64_id (by omega) (by omega)]
theorem good_wait (m d p : Int) (hm : 1 ≤ m ∧ m ≤ 50) (hp : 1 ≤ p ∧ p ≤ 50) (hd : 0 ≤ d ∧ d < m) : pay_Good.f (m * p) (d * p) 100 1 5 = some true := by
  obtain ⟨q1, q2⟩ := mul_le (a := m) (b := p) (c := 50) (d := 50) (by omega) (by omega) (by omega) (by omega)
  obtain ⟨q3, q4⟩ := mul_le (a := d) (b := p) (c := m) (d := p) (by omega) (by omega) (by omega) (by omega)
  unfold pay_Good.f
  rw [right_tells, decide_eq_true (by unfold Rt; omega)]
  rfl
theorem send_tells (m d p n key : Int) (sp : Bool) (hm : 1 ≤ m ∧ m ≤ 50) (hp : 1 ≤ p ∧ p ≤ 50) (hd : 0 ≤ d ∧ d < m) (hn : 1 ≤ n ∧ n ≤ m - d) (hk : 1 ≤ key ∧ key ≤ 100) :
    order_Send.f 100 1 CUP 0 1 m d p 9 sp 1 NO 0 0 0 (m * p) (d * p) 100 1 0 0 false CUP n n key = some (1, CUP, 0, 1, m, d, p, 9, sp, 2, CUP, n, n, key, m * p, d * p, 100, 1, 0, 0, false, 0) := by
  unfold order_Send.f
  rw [right_wait m d p sp hm hp hd, right_send m d p n key sp false hm hp hd hn hk]
  rfl
theorem came_tells (m d p n key : Int) (sp : Bool) (hm : 1 ≤ m ∧ m ≤ 50) (hp : 1 ≤ p ∧ p ≤ 50) (hd : 0 ≤ d ∧ d < m) (hn : 1 ≤ n ∧ n ≤ m - d) (hk : 1 ≤ key ∧ key ≤ 100) :
    order_Came.f 100 1 CUP 0 1 m d p 9 sp 2 CUP n n key (m * p) (d * p) 100 1 0 0 false = some (1, CUP, 0, 1, m, d + n, p, 9, sp, if d + n = m then 3 else 1, NO, 0, 0, 0, m * p, (d + n) * p, 100, if d + n = m then 3 else 1, 0, 0, false, n * p, 0) := by
  obtain ⟨q1, q2⟩ := mul_le (a := m) (b := p) (c := 50) (d := 50) (by omega) (by omega) (by omega) (by omega)
  obtain ⟨q3, q4⟩ := mul_le (a := d) (b := p) (c := m) (d := p) (by omega) (by omega) (by omega) (by omega)
  obtain ⟨q5, q6⟩ := mul_le (a := n) (b := p) (c := m - d) (d := p) (by omega) (by omega) (by omega) (by omega)
  have q7 : (m - d) * p = m * p - d * p := Int.sub_mul _ _ _
  have q8 : (d + n) * p = d * p + n * p := Int.add_mul _ _ _
  have hw : wrap64 (n * p) = n * p := wrap64_id (by omega) (by omega)
  have hw2 : wrap64 (d + n) = d + n := wrap64_id (by omega) (by omega)
  unfold order_Came.f
  rw [right_send m d p n key sp false hm hp hd hn hk]
  simp only [Option.bind_some, if_true, hw, hw2]
  have hc : pay_Catch.f (m * p) (d * p) 100 1 (n * p) = some (m * p, (d + n) * p, 100, 1, 0) := by
    rw [catch_tells, if_pos ⟨q5, by unfold Rt; omega⟩, if_neg (by decide), if_pos (by omega), q8]
  rw [hc]
  simp only [Option.bind_some]
  by_cases h : d + n = m
  · rw [if_pos h, if_pos h]
    unfold order_over.f pay_Close.f
    rw [right_tells, decide_eq_true (by unfold Rt; omega)]
    rfl
  · rw [if_neg h, if_neg h]
    rfl
theorem wants_tells (m d p f : Int) (sp : Bool) (hm : 1 ≤ m ∧ m ≤ 50) (hp : 1 ≤ p ∧ p ≤ 50) (hd : 0 ≤ d ∧ d < m) :
    order_Wants.f 100 1 CUP 0 1 m d p 9 sp 1 NO 0 0 0 (m * p) (d * p) 100 1 0 0 false f 5 = some (if f < 1 then 0 else if m - d > f then (if sp = true then f else 0) else m - d) := by
  unfold order_Wants.f
  rw [lack_tells m d p sp hm hp hd, good_wait m d p hm hp hd]
  simp only [Option.bind_some, if_true]
  unfold mn
  by_cases h : f < 1
  · rw [if_pos h, if_pos h]
  · rw [if_neg h, if_neg h]
    by_cases h2 : m - d > f
    · rw [if_pos h2, if_pos h2, if_pos (show f < m - d by omega)]
      cases sp <;> rfl
    · rw [if_neg h2, if_neg h2, if_neg (by omega)]
theorem open_wait (m d p : Int) (hm : 1 ≤ m ∧ m ≤ 50) (hp : 1 ≤ p ∧ p ≤ 50) (hd : 0 ≤ d ∧ d < m) : order_Open.f 100 1 CUP 0 1 m d p 9 true 1 NO 0 0 0 (m * p) (d * p) 100 1 0 0 false = some true := by
  unfold order_Open.f
  rw [right_wait m d p true hm hp hd]
  rfl
theorem open_done (m p : Int) (hm : 1 ≤ m ∧ m ≤ 50) (hp : 1 ≤ p ∧ p ≤ 50) : order_Open.f 100 1 CUP 0 1 m m p 9 true 3 NO 0 0 0 (m * p) (m * p) 100 3 0 0 false = some false := by
  unfold order_Open.f
  rw [right_done m p true hm hp]
  rfl
theorem end_done (a0 a1 m p : Int) (l : List Int) (hM : wrap64 (1 + ((wrap64 ((a0.tmod 40) + 40)).tmod 40)) = m) (hP : wrap64 (1 + ((wrap64 ((a1.tmod 40) + 40)).tmod 40)) = p) (hm : 1 ≤ m ∧ m ≤ 50) (hp : 1 ≤ p ∧ p ≤ 50) :
    tarrylaw13_OrderParts.j4 100 a0 a1 l (m * p) 1 CUP 0 1 m m p 9 true 3 NO 0 0 0 (m * p) (m * p) 100 3 0 0 false = some true := by
  obtain ⟨q1, q2⟩ := mul_le (a := m) (b := p) (c := 50) (d := 50) (by omega) (by omega) (by omega) (by omega)
  unfold tarrylaw13_OrderParts.j4
  rw [hM, hP, alive_tells, wrap64_id (a := m * p) (by omega) (by omega)]
  simp only [Option.bind_some, if_true, beq_self_eq_true]
  split <;> rfl
theorem end_wait (a0 a1 m d p s : Int) (l : List Int) (hl : (l.length : Int) > 20) : tarrylaw13_OrderParts.j4 100 a0 a1 l s 1 CUP 0 1 m d p 9 true 1 NO 0 0 0 (m * p) (d * p) 100 1 0 0 false = some true := by
  unfold tarrylaw13_OrderParts.j4
  rw [if_pos hl, alive_tells]
  rfl
theorem nine (x : Int) : 0 ≤ (wrap64 ((x.tmod 9) + 9)).tmod 9 ∧ (wrap64 ((x.tmod 9) + 9)).tmod 9 ≤ 8 := by
  have h1 : -9 < x.tmod 9 ∧ x.tmod 9 < 9 := ⟨Int.lt_tmod_of_pos x (by decide), Int.tmod_lt_of_pos x (by decide)⟩
  rw [wrap64_id (by omega) (by omega)]
  rw [Int.tmod_eq_emod_of_nonneg (by omega)]
  omega
theorem forty (x : Int) : ∃ m, wrap64 (1 + ((wrap64 ((x.tmod 40) + 40)).tmod 40)) = m ∧ 1 ≤ m ∧ m ≤ 40 := by
  have h1 : -40 < x.tmod 40 ∧ x.tmod 40 < 40 := ⟨Int.lt_tmod_of_pos x (by decide), Int.tmod_lt_of_pos x (by decide)⟩
  have h2 : wrap64 ((x.tmod 40) + 40) = (x.tmod 40) + 40 := wrap64_id (by omega) (by omega)
  have h3 : 0 ≤ ((x.tmod 40) + 40).tmod 40 ∧ ((x.tmod 40) + 40).tmod 40 ≤ 39 := by
    rw [Int.tmod_eq_emod_of_nonneg (by omega)]
    omega
  exact ⟨_, rfl, by rw [h2, wrap64_id (by omega) (by omega)]; omega, by rw [h2, wrap64_id (by omega) (by omega)]; omega⟩
/-- One part is sent, and comes. -/
theorem part_goes (a0 a1 m p d i n : Int) (l : List Int) (ml : Nat) (hM : wrap64 (1 + ((wrap64 ((a0.tmod 40) + 40)).tmod 40)) = m) (hP : wrap64 (1 + ((wrap64 ((a1.tmod 40) + 40)).tmod 40)) = p) (hm : 1 ≤ m ∧ m ≤ 50) (hp : 1 ≤ p ∧ p ≤ 50) (hd : 0 ≤ d ∧ d < m) (hn : 1 ≤ n ∧ n ≤ m - d) (hi : 0 ≤ i ∧ i < 60)
    (ih : d + n < m → tarrylaw13_OrderParts.l5 100 a0 a1 l ml ((d + n) * p) (i + 1) 1 CUP 0 1 m (d + n) p 9 true 1 NO 0 0 0 (m * p) ((d + n) * p) 100 1 0 0 false = some true) :
    ((order_Send.f 100 1 CUP 0 1 m d p 9 true 1 NO 0 0 0 (m * p) (d * p) 100 1 0 0 false (⟨#[99, 117, 112]⟩ : ByteArray) n n (wrap64 (i + 1))).bind fun ⟨t5943, t5944, t5945, t5946, t5947, t5948, t5949, t5950, t5951, t5952, t5953, t5954, t5955, t5956, t5957, t5958, t5959, t5960, t5961, t5962, t5963, t5964⟩ => ((order_Came.f 100 t5943 t5944 t5945 t5946 t5947 t5948 t5949 t5950 t5951 t5952 t5953 t5954 t5955 t5956 t5957 t5958 t5959 t5960 t5961 t5962 t5963).bind fun ⟨t5967, t5968, t5969, t5970, t5971, t5972, t5973, t5974, t5975, t5976, t5977, t5978, t5979, t5980, t5981, t5982, t5983, t5984, t5985, t5986, t5987, t5988, t5989⟩ => (if t5964 = 0 then (if t5989 = 0 then (if t5988 = (wrap64 (n * (wrap64 (1 + ((wrap64 ((a1.tmod 40) + 40)).tmod 40))))) then ((order_Open.f 100 t5967 t5968 t5969 t5970 t5971 t5972 t5973 t5974 t5975 t5976 t5977 t5978 t5979 t5980 t5981 t5982 t5983 t5984 t5985 t5986 t5987).bind fun t6017 => (if t6017 = true then (tarrylaw13_OrderParts.l5 100 a0 a1 l ml (wrap64 (d * p + t5988)) (wrap64 (i + 1)) t5967 t5968 t5969 t5970 t5971 t5972 t5973 t5974 t5975 t5976 t5977 t5978 t5979 t5980 t5981 t5982 t5983 t5984 t5985 t5986 t5987) else (tarrylaw13_OrderParts.j4 100 a0 a1 l (wrap64 (d * p + t5988)) t5967 t5968 t5969 t5970 t5971 t5972 t5973 t5974 t5975 t5976 t5977 t5978 t5979 t5980 t5981 t5982 t5983 t5984 t5985 t5986 t5987))) else none) else none) else none))) = some true := by
  obtain ⟨q1, q2⟩ := mul_le (a := m) (b := p) (c := 50) (d := 50) (by omega) (by omega) (by omega) (by omega)
  obtain ⟨q3, q4⟩ := mul_le (a := d) (b := p) (c := m) (d := p) (by omega) (by omega) (by omega) (by omega)
  obtain ⟨q5, q6⟩ := mul_le (a := n) (b := p) (c := m - d) (d := p) (by omega) (by omega) (by omega) (by omega)
  have q7 : (m - d) * p = m * p - d * p := Int.sub_mul _ _ _
  have q8 : (d + n) * p = d * p + n * p := Int.add_mul _ _ _
  have hw1 : wrap64 (n * p) = n * p := wrap64_id (by omega) (by omega)
  have hw2 : wrap64 (d * p + n * p) = (d + n) * p := by rw [wrap64_id (by omega) (by omega), q8]
  have hw3 : wrap64 (i + 1) = i + 1 := wrap64_id (by omega) (by omega)
  rw [hw3, hP, send_tells m d p n (i + 1) true hm hp hd hn (by omega)]
  simp only [Option.bind_some]
  rw [came_tells m d p n (i + 1) true hm hp hd hn (by omega)]
  simp only [Option.bind_some, if_true, hw1, hw2]
  by_cases h : d + n = m
  · rw [if_pos h, h, open_done m p hm hp]
    simp only [Option.bind_some, Bool.false_eq_true, if_false]
    exact end_done a0 a1 m p l hM hP hm hp
  · rw [if_neg h, open_wait m (d + n) p hm hp (by omega)]
    simp only [Option.bind_some, if_true]
    exact ih (by omega)
theorem parts_loop (a0 a1 m p : Int) (l : List Int) (hM : wrap64 (1 + ((wrap64 ((a0.tmod 40) + 40)).tmod 40)) = m) (hP : wrap64 (1 + ((wrap64 ((a1.tmod 40) + 40)).tmod 40)) = p) (hm : 1 ≤ m ∧ m ≤ 40) (hp : 1 ≤ p ∧ p ≤ 40) (r : Nat) : ∀ (ml : Nat) (i d : Int), 0 ≤ i → i ≤ 60 → (60 - i).toNat = r → r < ml → 0 ≤ d → d < m → ((l.length : Int) ≤ 20 → i - (l.length : Int) ≤ d) →
    tarrylaw13_OrderParts.l5 100 a0 a1 l ml (d * p) i 1 CUP 0 1 m d p 9 true 1 NO 0 0 0 (m * p) (d * p) 100 1 0 0 false = some true := by
  induction r with
  | zero =>
    intro ml i d h0 h1 h2 h3 h4 h5 h6
    obtain ⟨ml, rfl⟩ : ∃ q, ml = q + 1 := ⟨ml - 1, by omega⟩
    simp only [tarrylaw13_OrderParts.l5]
    rw [if_neg (by omega)]
    exact end_wait a0 a1 m d p (d * p) l (by omega)
  | succ r ih =>
    intro ml i d h0 h1 h2 h3 h4 h5 h6
    obtain ⟨ml, rfl⟩ : ∃ q, ml = q + 1 := ⟨ml - 1, by omega⟩
    have hw3 : wrap64 (i + 1) = i + 1 := wrap64_id (by omega) (by omega)
    simp only [tarrylaw13_OrderParts.l5]
    rw [if_pos (by omega)]
    by_cases hlt : i < (l.length : Int)
    · obtain ⟨x, hx⟩ : ∃ x, l[i.toNat]? = some x := ⟨_, List.getElem?_eq_getElem (by omega)⟩
      obtain ⟨f1, f2⟩ := nine x
      rw [if_pos hlt, if_pos h0, hx, Option.bind_some]
      generalize (wrap64 ((x.tmod 9) + 9)).tmod 9 = f at f1 f2
      rw [wants_tells m d p f true (by omega) (by omega) (by omega), lack_tells m d p true (by omega) (by omega) (by omega)]
      simp only [Option.bind_some, if_true]
      have key : ∃ n, (if f < 1 then 0 else if m - d > f then f else m - d) = n ∧ mn f (m - d) = n ∧ (n = 0 ∨ (1 ≤ n ∧ n ≤ m - d)) := by
        refine ⟨_, rfl, ?_, ?_⟩
        · unfold mn
          split <;> split <;> first | omega | (split <;> omega)
        · split
          · exact .inl rfl
          · split <;> exact .inr (by omega)
      obtain ⟨n, e1, e2, e3⟩ := key
      rw [e1, e2, if_pos rfl]
      rcases e3 with rfl | e3
      · rw [if_pos rfl, hw3]
        exact ih ml (i + 1) d (by omega) (by omega) (by omega) (by omega) h4 h5 (by omega)
      · rw [if_neg (by omega)]
        exact part_goes a0 a1 m p d i n l ml hM hP (by omega) (by omega) ⟨h4, h5⟩ e3 (by omega) (fun hlt2 => ih ml (i + 1) (d + n) (by omega) (by omega) (by omega) (by omega) (by omega) hlt2 (by omega))
    · rw [if_neg hlt, wants_tells m d p 1 true (by omega) (by omega) (by omega), lack_tells m d p true (by omega) (by omega) (by omega)]
      simp only [Option.bind_some, if_true]
      have e1 : (if (1 : Int) < 1 then 0 else if m - d > 1 then 1 else m - d) = 1 := by rw [if_neg (by decide)]; split <;> omega
      have e2 : mn 1 (m - d) = 1 := by unfold mn; split <;> omega
      rw [e1, e2, if_pos rfl, if_neg (by decide)]
      exact part_goes a0 a1 m p d i 1 l ml hM hP (by omega) (by omega) ⟨h4, h5⟩ (by omega) (by omega) (fun hlt2 => ih ml (i + 1) (d + 1) (by omega) (by omega) (by omega) (by omega) (by omega) hlt2 (by omega))
theorem OrderParts : tarrylaw13_OrderParts.Pure := by
  intro a0 a1 l _ _ _
  obtain ⟨m, hM, hm⟩ := forty a0
  obtain ⟨p, hP, hp⟩ := forty a1
  refine ⟨100, ?_⟩
  unfold tarrylaw13_OrderParts.f
  rw [hM, hP, onew_tells m p true (by omega) (by omega)]
  simp only [Option.bind_some, if_true]
  have := parts_loop a0 a1 m p l hM hP hm hp 60 100 0 0 (by decide) (by decide) (by decide) (by decide) (by decide) (by omega) (fun _ => by omega)
  rw [Int.zero_mul] at this
  exact this
end Go.Proofs.Ytlmpfogfgefngaa.Pure
