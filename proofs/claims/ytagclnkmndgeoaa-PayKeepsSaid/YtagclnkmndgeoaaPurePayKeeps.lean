/- PayKeeps: whatever is done with money that was promised, never is more caught than was promised, and what is caught is what was taken: the statement's Go function answers true at every input; no further condition. -/
import Derived.Test.YtagclnkmndgeoaaPPayKeepsx9
namespace Go.Proofs.Ytagclnkmndgeoaa.Pure
open Go.RowKit Go.Proofs.Ytagclnkmndgeoaa.PPayKeeps Go.Proofs.YtagclnkmndgeoaaW.PrintWords Go.Proofs.YtagclnkmndgeoaaW.PrintLast Go.Proofs.YtagclnkmndgeoaaW.PrintMore
set_option linter.unusedSimpArgs false
theorem wf64 {a : Int} (h : (Lit.int .i64 a).wf = true) : -9223372036854775808 ≤ a ∧ a ≤ 9223372036854775807 := by
  simpa [Lit.wf, IntKind.min, IntKind.max, IntKind.signed, IntKind.bits] using h
theorem wrap64_id {a : Int} (h : -9223372036854775808 ≤ a) (h' : a ≤ 9223372036854775807) : wrap64 a = a := by
  unfold wrap64
  omega
theorem u64_wrap (x : Int) : IntKind.u64.wrap x = x % 18446744073709551616 := by simp [IntKind.wrap, IntKind.bits, IntKind.signed]
theorem may_tells (a : Int) : pack_may.f a = some (decide (-1152921504606846976 ≤ a ∧ a ≤ 1152921504606846976)) := by
  unfold pack_may.f
  split <;> simp <;> omega
theorem and_mask (x : Int) (h : 0 ≤ x) (h2 : x < 18446744073709551616) : Go.bits .and .u64 x 4294967295 = x % 4294967296 := by
  have := bits_mask .u64 64 (by decide) (by intro n h h'; simp [IntKind.wrap, IntKind.bits, IntKind.signed]; omega) 32 (by decide) x h (by simpa using h2)
  simpa using this

theorem mul_split (x y x1 x0 y1 y0 : Int) (hx : x = x1 * 4294967296 + x0) (hy : y = y1 * 4294967296 + y0) : x * y = x1 * y1 * 18446744073709551616 + (x1 * y0 + x0 * y1) * 4294967296 + x0 * y0 := by
  subst hx hy
  simp only [Int.add_mul, Int.mul_add]
  have e1 : x1 * 4294967296 * (y1 * 4294967296) = x1 * y1 * 18446744073709551616 := by
    rw [Int.mul_assoc, Int.mul_left_comm 4294967296 y1, ← Int.mul_assoc]
    rfl
  have e2 : x1 * 4294967296 * y0 = x1 * y0 * 4294967296 := Int.mul_right_comm ..
  have e3 : x0 * (y1 * 4294967296) = x0 * y1 * 4294967296 := (Int.mul_assoc ..).symm
  rw [e1, e2, e3]
  omega

theorem prod_le {a b c d : Int} (ha : 0 ≤ a) (hb : 0 ≤ b) (h1 : a ≤ c) (h2 : b ≤ d) : 0 ≤ a * b ∧ a * b ≤ c * d :=
  ⟨Int.mul_nonneg ha hb, Int.mul_le_mul h1 h2 hb (by omega)⟩

theorem mul64_tells (x y : Int) (hx : 0 ≤ x ∧ x ≤ 1152921504606846976) (hy : 0 ≤ y ∧ y ≤ 1152921504606846976) :
    bits_Mul64.f x y = some (x * y / 18446744073709551616, x * y % 18446744073709551616) := by
  unfold bits_Mul64.f
  have hs := mul_split x y (x / 4294967296) (x % 4294967296) (y / 4294967296) (y % 4294967296) (by omega) (by omega)
  have p11 := prod_le (a := x / 4294967296) (b := y / 4294967296) (c := 268435456) (d := 268435456) (by omega) (by omega) (by omega) (by omega)
  have p10 := prod_le (a := x / 4294967296) (b := y % 4294967296) (c := 268435456) (d := 4294967295) (by omega) (by omega) (by omega) (by omega)
  have p01 := prod_le (a := x % 4294967296) (b := y / 4294967296) (c := 4294967295) (d := 268435456) (by omega) (by omega) (by omega) (by omega)
  have p00 := prod_le (a := x % 4294967296) (b := y % 4294967296) (c := 4294967295) (d := 4294967295) (by omega) (by omega) (by omega) (by omega)
  simp only [and_mask x hx.1 (by omega), and_mask y hy.1 (by omega)]
  generalize x / 4294967296 * (y / 4294967296) = q11 at *
  generalize x / 4294967296 * (y % 4294967296) = q10 at *
  generalize x % 4294967296 * (y / 4294967296) = q01 at *
  generalize x % 4294967296 * (y % 4294967296) = q00 at *
  rw [hs]
  simp only [u64_wrap]
  have w0 : q00 % 18446744073709551616 = q00 := by omega
  have w1 : q10 % 18446744073709551616 = q10 := by omega
  have w2 : q01 % 18446744073709551616 = q01 := by omega
  have w3 : q11 % 18446744073709551616 = q11 := by omega
  rw [w0, w1, w2, w3]
  rw [and_mask _ (by omega) (by omega)]
  congr 2 <;> omega

theorem size_tells (a : Int) (h : -1152921504606846976 ≤ a ∧ a ≤ 1152921504606846976) : pack_size.f a = some (a.natAbs : Int) := by
  unfold pack_size.f
  split
  · rw [wrap64_id (by omega) (by omega), u64_wrap]
    congr 1
    omega
  · rw [u64_wrap]
    congr 1
    omega

theorem times_tells (k : Nat) (a b : Int) :
    pack_Times.f (k + 1) a b = some (if (-1152921504606846976 ≤ a ∧ a ≤ 1152921504606846976) ∧ (-1152921504606846976 ≤ b ∧ b ≤ 1152921504606846976) then (if -1152921504606846976 ≤ a * b ∧ a * b ≤ 1152921504606846976 then (a * b, 0) else (0, 2)) else (0, 1)) := by
  simp only [pack_Times.f, may_tells, Option.bind_some]
  by_cases h1 : -1152921504606846976 ≤ a ∧ a ≤ 1152921504606846976
  · by_cases h2 : -1152921504606846976 ≤ b ∧ b ≤ 1152921504606846976
    · simp only [pack_Times.j0, size_tells a h1, size_tells b h2, Option.bind_some, decide_eq_true h1, decide_eq_true h2, if_true, Bool.not_true]
      have h12 : (-1152921504606846976 ≤ a ∧ a ≤ 1152921504606846976) ∧ (-1152921504606846976 ≤ b ∧ b ≤ 1152921504606846976) := ⟨h1, h2⟩
      rw [mul64_tells _ _ ⟨by omega, by omega⟩ ⟨by omega, by omega⟩, if_pos h12]
      have e : (a.natAbs : Int) * (b.natAbs : Int) = ((a * b).natAbs : Int) := by rw [Int.natAbs_mul, Int.natCast_mul]
      simp only [Option.bind_some, Bool.false_eq_true, if_false]
      rw [e]
      generalize hp : a * b = p at *
      by_cases h3 : -1152921504606846976 ≤ p ∧ p ≤ 1152921504606846976
      · rw [if_neg (by omega), if_neg (by omega), if_pos h3, wrap64_id (by omega) (by omega)]
      · rw [if_neg h3]
        by_cases h4 : (p.natAbs : Int) / 18446744073709551616 > 0
        · rw [if_pos h4]
        · rw [if_neg h4, if_pos (by omega)]
    · simp [pack_Times.j0, h1, h2]
  · simp [pack_Times.j0, h1]
/-- Which money may be. -/
def Rt (a b c d : Int) : Prop := 0 ≤ a ∧ a ≤ 1125899906842624 ∧ 0 ≤ b ∧ b ≤ a ∧ 0 ≤ c ∧ c ≤ 1099511627776 ∧ 1 ≤ d ∧ d ≤ 3
instance (a b c d : Int) : Decidable (Rt a b c d) := by unfold Rt; exact inferInstance
theorem time_tells (a : Int) : pay_time.f a = some (decide (0 ≤ a ∧ a ≤ 1099511627776)) := by
  unfold pay_time.f
  split <;> simp <;> omega
theorem units_tells (a : Int) : pay_units.f a = some (decide (1 ≤ a ∧ a ≤ 1073741824)) := by
  unfold pay_units.f
  split <;> simp <;> omega
theorem right_tells (a b c d : Int) : pay_Right.f a b c d = some (decide (Rt a b c d)) := by
  unfold pay_Right.f Rt
  simp only [time_tells, Option.bind_some, decide_eq_true_eq]
  repeat' split
  all_goals (congr 1; first | (symm; apply decide_eq_true; omega) | (symm; apply decide_eq_false; omega) | (apply decide_eq_decide.2; omega))
theorem new_tells (k : Nat) (m p u : Int) : pay_New.f (k + 2) m p u = some (if 1 ≤ m ∧ m ≤ 1073741824 ∧ 1 ≤ p ∧ p ≤ 1073741824 ∧ 0 ≤ u ∧ u ≤ 1099511627776 then (if m * p > 1125899906842624 then (0, 0, 0, 0, 2) else (m * p, 0, u, 1, 0)) else (0, 0, 0, 0, 1)) := by
  simp only [pay_New.f, units_tells, time_tells, Option.bind_some, decide_eq_true_eq, pay_New.j0, times_tells]
  by_cases h1 : 1 ≤ m ∧ m ≤ 1073741824
  · by_cases h2 : 1 ≤ p ∧ p ≤ 1073741824
    · by_cases h3 : 0 ≤ u ∧ u ≤ 1099511627776
      · have h4 := prod_le (a := m) (b := p) (c := 1073741824) (d := 1073741824) (by omega) (by omega) h1.2 h2.2
        have h5 : m * p ≤ 1152921504606846976 := by omega
        have h6 : -1152921504606846976 ≤ m * p := by omega
        have h7 : -1152921504606846976 ≤ m ∧ m ≤ 1152921504606846976 := by omega
        have h8 : -1152921504606846976 ≤ p ∧ p ≤ 1152921504606846976 := by omega
        simp only [h1, h2, h3, h5, h6, h7, h8, true_and, and_true, and_self, if_true, Option.bind_some, decide_true, Bool.not_true, Bool.false_eq_true, if_false]
        split <;> rfl
      · have hn : ¬ (1 ≤ m ∧ m ≤ 1073741824 ∧ 1 ≤ p ∧ p ≤ 1073741824 ∧ 0 ≤ u ∧ u ≤ 1099511627776) := by omega
        rw [if_pos h1, if_pos h2]
        refine Eq.trans ?_ (congrArg some (if_neg hn).symm)
        simp only [h3, decide_false, Bool.not_false, if_true]
    · have hn : ¬ (1 ≤ m ∧ m ≤ 1073741824 ∧ 1 ≤ p ∧ p ≤ 1073741824 ∧ 0 ≤ u ∧ u ≤ 1099511627776) := by omega
      rw [if_pos h1, if_neg h2]
      refine Eq.trans ?_ (congrArg some (if_neg hn).symm)
      simp only [if_true]
  · have hn : ¬ (1 ≤ m ∧ m ≤ 1073741824 ∧ 1 ≤ p ∧ p ≤ 1073741824 ∧ 0 ≤ u ∧ u ≤ 1099511627776) := by omega
    rw [if_neg h1]
    refine Eq.trans ?_ (congrArg some (if_neg hn).symm)
    simp only [if_true]
/-- What is promised. -/
def newv (m p u : Int) : Int × Int × Int × Int × Int := if 1 ≤ m ∧ m ≤ 1073741824 ∧ 1 ≤ p ∧ p ≤ 1073741824 ∧ 0 ≤ u ∧ u ≤ 1099511627776 then (if m * p > 1125899906842624 then (0, 0, 0, 0, 2) else (m * p, 0, u, 1, 0)) else (0, 0, 0, 0, 1)
theorem newv_tells (k : Nat) (m p u : Int) : pay_New.f (k + 2) m p u = some (newv m p u) := new_tells k m p u
theorem catch_tells (a b c d n : Int) : pay_Catch.f a b c d n = some (if 0 ≤ n ∧ Rt a b c d then (if d = 3 then (0, 0, 0, 0, 10) else if n ≤ a - b then (a, b + n, c, d, 0) else (0, 0, 0, 0, 2)) else (0, 0, 0, 0, 1)) := by
  unfold pay_Catch.f
  simp only [right_tells, Option.bind_some, decide_eq_true_eq]
  by_cases h : n < 0
  · rw [if_pos h, if_neg (by omega)]
  · rw [if_neg h]
    by_cases h2 : Rt a b c d
    · have h3 : 0 ≤ n := by omega
      simp only [h2, h3, and_self, if_true]
      repeat' split
      all_goals rfl
    · rw [if_neg h2, if_neg (fun h => h2 h.2)]
theorem alive_tells (k : Nat) : tarrylaw11_alive.f (k + 2) = some true := by
  simp only [tarrylaw11_alive.f, new_tells, Option.bind_some]
  rw [if_pos (by decide), if_neg (by decide)]
  simp only [catch_tells, Option.bind_some]
  rw [if_pos (by decide)]
  rfl
theorem good_tells (a b c d n : Int) : pay_Good.f a b c d n = some (decide (Rt a b c d ∧ d = 1 ∧ n < c)) := by
  unfold pay_Good.f
  simp only [right_tells, Option.bind_some, decide_eq_true_eq]
  by_cases h1 : Rt a b c d
  · by_cases h2 : d = 1
    · subst h2
      simp [h1]
    · simp [h1, h2]
  · simp [h1]
theorem lapse_tells (a b c d n : Int) : pay_Lapse.f a b c d n = some (if Rt a b c d then (if d = 1 ∧ c ≤ n then (a, b, c, 2, true, 0) else (a, b, c, d, false, 0)) else (0, 0, 0, 0, false, 1)) := by
  unfold pay_Lapse.f
  simp only [right_tells, Option.bind_some, decide_eq_true_eq]
  by_cases h : Rt a b c d
  · by_cases h1 : d = 1
    · by_cases h2 : c ≤ n <;> simp [h1, h2]
      all_goals subst h1; simp [h]
    · simp [h, h1]
  · simp [h]
theorem close_tells (a b c d : Int) : pay_Close.f a b c d = some (if Rt a b c d then (if d = 3 then (0, 0, 0, 0, 10) else (a, b, c, 3, 0)) else (0, 0, 0, 0, 1)) := by
  unfold pay_Close.f
  simp only [right_tells, Option.bind_some, decide_eq_true_eq]
  repeat' split
  all_goals rfl
theorem renew_tells (a b c d n : Int) : pay_Renew.f a b c d n = some (if 0 ≤ n ∧ n ≤ 1099511627776 ∧ Rt a b c d then (if d = 2 then (a, b, n, 1, 0) else (0, 0, 0, 0, 10)) else (0, 0, 0, 0, 1)) := by
  unfold pay_Renew.f
  simp only [right_tells, Option.bind_some, decide_eq_true_eq]
  by_cases h1 : n < 0
  · rw [if_pos h1, if_neg (by omega)]
  · by_cases h2 : n > 1099511627776
    · rw [if_neg h1, if_pos h2, if_neg (by omega)]
    · rw [if_neg h1, if_neg h2]
      by_cases h : Rt a b c d
      · have h3 : 0 ≤ n := by omega
        have h4 : n ≤ 1099511627776 := by omega
        simp only [h, h3, h4, and_self, if_true]
        repeat' split
        all_goals rfl
      · simp [h]
theorem rest_bound (m : Int) (hm : 0 < m) (hm2 : m ≤ 1000000) (a : Int) : 0 ≤ Int.tmod (wrap64 (Int.tmod a m + m)) m ∧ Int.tmod (wrap64 (Int.tmod a m + m)) m < m := by
  have h1 : Int.tmod a m < m := Int.tmod_lt_of_pos a hm
  have h2 : -m < Int.tmod a m := by
    have := Int.lt_tmod_of_pos a hm
    omega
  have h3 : wrap64 (Int.tmod a m + m) = Int.tmod a m + m := wrap64_id (by omega) (by omega)
  rw [h3]
  exact ⟨Int.tmod_nonneg _ (by omega), Int.tmod_lt_of_pos _ hm⟩
theorem j1_goes (k : Nat) (u p sum n i A C U S K f1 A' C' U' S' : Int) (l : List S39) (hR : Rt A C U S) (hR' : Rt A' C' U' S') (hA : A' = u * p) (hC : C' = sum)
    (hw : wrap64 (u * p) = u * p) (hi : wrap64 (i + 1) = i + 1) (h3 : S = 3 → A' = A ∧ C' = C ∧ U' = U ∧ S' = S)
    (hg : S' = 1 → S = 1 ∨ Int.tmod (wrap64 ((Int.tmod K 4) + 4)) 4 = 1) :
    tarrylaw11_PayKeeps.j1 (k + 1) u p sum 0 l n i A C U S K f1 A' C' U' S' = tarrylaw11_PayKeeps.l0 k u p sum l n (i + 1) A' C' U' S' := by
  have u0 : -1 < U := by unfold Rt at hR; omega
  have u1 : -1 < U' := by unfold Rt at hR'; omega
  simp only [tarrylaw11_PayKeeps.j1, right_tells, good_tells, Option.bind_some, hR, hR', decide_true, if_true, hw, hi, true_and, u0, u1, and_true, decide_eq_true_eq]
  rw [if_pos hA, if_pos hC]
  have rest : (if S' = 1 then (if S = 1 then tarrylaw11_PayKeeps.l0 k u p sum l n (i + 1) A' C' U' S' else if Int.tmod (wrap64 ((Int.tmod K 4) + 4)) 4 = 1 then tarrylaw11_PayKeeps.l0 k u p sum l n (i + 1) A' C' U' S' else none) else tarrylaw11_PayKeeps.l0 k u p sum l n (i + 1) A' C' U' S') = tarrylaw11_PayKeeps.l0 k u p sum l n (i + 1) A' C' U' S' := by
    by_cases h1 : S' = 1
    · rw [if_pos h1]
      by_cases h2 : S = 1
      · rw [if_pos h2]
      · rw [if_neg h2]
        rcases hg h1 with h | h
        · exact absurd h h2
        · rw [if_pos h]
    · rw [if_neg h1]
  by_cases hS : S = 3
  · obtain ⟨rfl, rfl, rfl, rfl⟩ := h3 hS
    rw [if_pos hS]
    simp only [beq_self_eq_true, Bool.not_true, Bool.or_self, Bool.false_eq_true, if_false]
    exact rest
  · rw [if_neg hS]
    exact rest
theorem j1_stays (k : Nat) (u p sum e n i A C U S K f1 A' C' U' S' : Int) (l : List S39) (he : e ≠ 0) (hi : wrap64 (i + 1) = i + 1) :
    tarrylaw11_PayKeeps.j1 (k + 1) u p sum e l n i A C U S K f1 A' C' U' S' = tarrylaw11_PayKeeps.l0 k u p sum l n (i + 1) A C U S := by
  simp only [tarrylaw11_PayKeeps.j1, hi]
  rw [if_neg he]
theorem l0_tells (u p : Int) (l : List S39) (hl : l.length ≤ 9223372036854775807) (hw : wrap64 (u * p) = u * p) (d : Nat) : ∀ (k : Nat) (sum i A C U S : Int), 0 ≤ i → i ≤ (l.length : Int) → (l.length : Int) - i = d → 2 * d + 5 ≤ k → Rt A C U S → A = u * p → C = sum →
    tarrylaw11_PayKeeps.l0 k u p sum l (l.length : Int) i A C U S = some true := by
  induction d with
  | zero =>
    intro k sum i A C U S h0 h1 hd hk hR hA hC
    obtain ⟨k, rfl⟩ : ∃ m, k = m + 3 := ⟨k - 3, by omega⟩
    simp only [tarrylaw11_PayKeeps.l0]
    rw [if_neg (by omega), alive_tells k]
    have : C ≤ u * p := by unfold Rt at hR; omega
    simp [hw, this]
  | succ d ih =>
    intro k sum i A C U S h0 h1 hd hk hR hA hC
    obtain ⟨k, rfl⟩ : ∃ m, k = m + 4 := ⟨k - 4, by omega⟩
    simp only [tarrylaw11_PayKeeps.l0]
    rw [if_pos (by omega), if_pos h0, if_pos (by omega)]
    by_cases h30 : i ≥ 30
    · rw [if_pos h30, alive_tells (k + 1)]
      have : C ≤ u * p := by unfold Rt at hR; omega
      simp [hw, this]
    · rw [if_neg h30]
      have hi : wrap64 (i + 1) = i + 1 := wrap64_id (by omega) (by omega)
      have go := fun (sum A C U S : Int) => ih (k + 2) sum (i + 1) A C U S (by omega) (by omega) (by omega) (by omega)
      generalize rd_T39 l i = x
      obtain ⟨K, N⟩ := x
      dsimp only
      by_cases hk0 : Int.tmod (wrap64 ((Int.tmod K 4) + 4)) 4 = 0
      · rw [if_pos hk0, lapse_tells]
        simp only [Option.bind_some, hR, if_true]
        by_cases h2 : S = 1 ∧ U ≤ N
        · have hR' : Rt A C U 2 := by unfold Rt at hR ⊢; omega
          simp only [h2, and_self, if_true]
          rw [j1_goes _ _ _ _ _ _ _ _ _ _ _ _ _ _ _ _ _ (by rw [← h2.1]; exact hR) hR' hA hC hw hi (by omega) (by omega)]
          exact go _ _ _ _ _ hR' hA hC
        · simp only [h2, if_false]
          rw [j1_goes _ _ _ _ _ _ _ _ _ _ _ _ _ _ _ _ _ hR hR hA hC hw hi (fun _ => ⟨rfl, rfl, rfl, rfl⟩) (fun h => .inl h)]
          exact go _ _ _ _ _ hR hA hC
      · rw [if_neg hk0]
        by_cases hk1 : Int.tmod (wrap64 ((Int.tmod K 4) + 4)) 4 = 1
        · rw [if_pos hk1, renew_tells]
          simp only [Option.bind_some, hR, and_true]
          by_cases h2 : 0 ≤ N ∧ N ≤ 1099511627776
          · rw [if_pos h2]
            by_cases h3 : S = 2
            · rw [if_pos h3]
              have hR' : Rt A C N 1 := by unfold Rt at hR ⊢; omega
              rw [j1_goes _ _ _ _ _ _ _ _ _ _ _ _ _ _ _ _ _ hR hR' hA hC hw hi (by omega) (fun _ => .inr hk1)]
              exact go _ _ _ _ _ hR' hA hC
            · rw [if_neg h3, j1_stays _ _ _ _ _ _ _ _ _ _ _ _ _ _ _ _ _ _ (by decide) hi]
              exact go _ _ _ _ _ hR hA hC
          · rw [if_neg h2, j1_stays _ _ _ _ _ _ _ _ _ _ _ _ _ _ _ _ _ _ (by decide) hi]
            exact go _ _ _ _ _ hR hA hC
        · rw [if_neg hk1]
          by_cases hk2 : Int.tmod (wrap64 ((Int.tmod K 4) + 4)) 4 = 2
          · rw [if_pos hk2, catch_tells]
            simp only [Option.bind_some, hR, and_true]
            by_cases h2 : 0 ≤ N
            · rw [if_pos h2]
              by_cases h3 : S = 3
              · rw [if_pos h3, if_neg (by decide), j1_stays _ _ _ _ _ _ _ _ _ _ _ _ _ _ _ _ _ _ (by decide) hi]
                exact go _ _ _ _ _ hR hA hC
              · rw [if_neg h3]
                by_cases h4 : N ≤ A - C
                · have hR' : Rt A (C + N) U S := by unfold Rt at hR ⊢; omega
                  have hs : wrap64 (sum + N) = sum + N := wrap64_id (by unfold Rt at hR; omega) (by unfold Rt at hR; omega)
                  rw [if_pos h4, if_pos rfl, hs]
                  rw [j1_goes _ _ _ _ _ _ _ _ _ _ _ _ _ _ _ _ _ hR hR' hA (by omega) hw hi (fun h => absurd h h3) (fun h => .inl h)]
                  exact go _ _ _ _ _ hR' hA (by omega)
                · rw [if_neg h4, if_neg (by decide), j1_stays _ _ _ _ _ _ _ _ _ _ _ _ _ _ _ _ _ _ (by decide) hi]
                  exact go _ _ _ _ _ hR hA hC
            · rw [if_neg h2, if_neg (by decide), j1_stays _ _ _ _ _ _ _ _ _ _ _ _ _ _ _ _ _ _ (by decide) hi]
              exact go _ _ _ _ _ hR hA hC
          · rw [if_neg hk2, close_tells]
            simp only [Option.bind_some, hR, if_true]
            by_cases h3 : S = 3
            · rw [if_pos h3, j1_stays _ _ _ _ _ _ _ _ _ _ _ _ _ _ _ _ _ _ (by decide) hi]
              exact go _ _ _ _ _ hR hA hC
            · rw [if_neg h3]
              have hR' : Rt A C U 3 := by unfold Rt at hR ⊢; omega
              rw [j1_goes _ _ _ _ _ _ _ _ _ _ _ _ _ _ _ _ _ hR hR' hA hC hw hi (fun h => absurd h h3) (by omega)]
              exact go _ _ _ _ _ hR' hA hC
theorem PayKeeps : tarrylaw11_PayKeeps.Pure := by
  intro a b l ha hb hl
  obtain ⟨x', hx'⟩ : ∃ x', Int.tmod (wrap64 (Int.tmod a 100 + 100)) 100 = x' := ⟨_, rfl⟩
  obtain ⟨y', hy'⟩ : ∃ y', Int.tmod (wrap64 (Int.tmod b 100 + 100)) 100 = y' := ⟨_, rfl⟩
  have bx := rest_bound 100 (by decide) (by decide) a
  have bY := rest_bound 100 (by decide) (by decide) b
  rw [hx'] at bx
  rw [hy'] at bY
  refine ⟨2 * l.length + 10, ?_⟩
  rw [tarrylaw11_PayKeeps.f, hx', hy', wrap64_id (by omega) (by omega), wrap64_id (by omega) (by omega), new_tells (2 * l.length + 8)]
  have hp := prod_le (a := 1 + x') (b := 1 + y') (c := 100) (d := 100) (by omega) (by omega) (by omega) (by omega)
  have hc : 1 ≤ 1 + x' ∧ 1 + x' ≤ 1073741824 ∧ 1 ≤ 1 + y' ∧ 1 + y' ≤ 1073741824 ∧ (0 : Int) ≤ 10 ∧ (10 : Int) ≤ 1099511627776 := by omega
  have hn : ¬ (1 + x') * (1 + y') > 1125899906842624 := by omega
  rw [if_pos hc, if_neg hn]
  simp only [Option.bind_some, if_true]
  exact l0_tells (1 + x') (1 + y') l hl.1 (wrap64_id (by omega) (by omega)) l.length _ _ _ _ _ _ _ (by omega) (by omega) (by omega) (by omega) (by unfold Rt; omega) rfl rfl
end Go.Proofs.Ytagclnkmndgeoaa.Pure
