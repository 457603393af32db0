/- PackSums: for any two whole numbers, the sum and the product that the program gives are as the reference says, or refused; no further condition. -/
import Derived.Test.YtacenfolbmdpoaaPPackSumsx3
namespace Go.Proofs.Ytacenfolbmdpoaa.Pure
open Go.RowKit Go.Proofs.Ytacenfolbmdpoaa.PPackSums Go.Proofs.YtacenfolbmdpoaaW.PrintWords Go.Proofs.YtacenfolbmdpoaaW.PrintLast
theorem ba_toList_loop (a : ByteArray) : ∀ (d i : Nat) (r : List UInt8), a.size - i = d → ByteArray.toList.loop a i r = r.reverse ++ a.data.toList.drop i := by
  intro d
  induction d with
  | zero =>
    intro i r h
    unfold ByteArray.toList.loop
    have h1 : ¬ i < a.size := by omega
    rw [if_neg h1, List.drop_eq_nil_of_le (by show a.data.toList.length ≤ i; rw [Array.length_toList]; exact Nat.le_of_not_lt h1), List.append_nil]
  | succ d ih =>
    intro i r h
    unfold ByteArray.toList.loop
    have h1 : i < a.size := by omega
    have h2 : i < a.data.toList.length := by rw [Array.length_toList]; exact h1
    rw [if_pos h1, ih (i + 1) _ (by omega), List.reverse_cons, List.append_assoc, List.drop_eq_getElem_cons h2]
    have h3 : a.get! i = a.data.toList[i] := by
      show a.data[i]! = _
      rw [getElem!_pos a.data i h1]
      rfl
    rw [h3]
    rfl
theorem ba_toList (a : ByteArray) : a.toList = a.data.toList := by
  unfold ByteArray.toList
  rw [ba_toList_loop a a.size 0 [] (by omega)]
  rfl
theorem wf64 {a : Int} (h : (Lit.int .i64 a).wf = true) : -9223372036854775808 ≤ a ∧ a ≤ 9223372036854775807 := by
  simpa [Lit.wf, IntKind.min, IntKind.max, IntKind.signed, IntKind.bits] using h
theorem wrap64_id {a : Int} (h : -9223372036854775808 ≤ a) (h' : a ≤ 9223372036854775807) : wrap64 a = a := by
  unfold wrap64
  omega
theorem u64_wrap (x : Int) : IntKind.u64.wrap x = x % 18446744073709551616 := by simp [IntKind.wrap, IntKind.bits, IntKind.signed]
theorem may_tells (a : Int) : pack_may.f a = some (decide (-1152921504606846976 ≤ a ∧ a ≤ 1152921504606846976)) := by
  unfold pack_may.f
  split <;> simp <;> omega
theorem alive_tells (k : Nat) : tarrylaw01_alive.f (k + 5) = some true := by
  simp only [tarrylaw01_alive.f, pack_Number.f, may_tells, Option.bind_some]
  simp [pack_Number.j0, pack_Number.l0, wrap64, ba_toList, strOfNums]
theorem add_tells (k : Nat) (a b : Int) (ha : -9223372036854775808 ≤ a ∧ a ≤ 9223372036854775807) (hb : -9223372036854775808 ≤ b ∧ b ≤ 9223372036854775807) :
    pack_Add.f (k + 1) a b = some (if (-1152921504606846976 ≤ a ∧ a ≤ 1152921504606846976) ∧ (-1152921504606846976 ≤ b ∧ b ≤ 1152921504606846976) then (if -1152921504606846976 ≤ a + b ∧ a + b ≤ 1152921504606846976 then (a + b, 0) else (0, 2)) else (0, 1)) := by
  simp only [pack_Add.f, may_tells, Option.bind_some]
  by_cases h1 : -1152921504606846976 ≤ a ∧ a ≤ 1152921504606846976
  · by_cases h2 : -1152921504606846976 ≤ b ∧ b ≤ 1152921504606846976
    · have e : wrap64 (a + b) = a + b := wrap64_id (by omega) (by omega)
      simp only [pack_Add.j0, may_tells, e, Option.bind_some, decide_eq_true h1, decide_eq_true h2, if_true, Bool.not_true]
      have h12 : (-1152921504606846976 ≤ a ∧ a ≤ 1152921504606846976) ∧ (-1152921504606846976 ≤ b ∧ b ≤ 1152921504606846976) := ⟨h1, h2⟩
      rw [if_pos h12]
      simp only [Bool.false_eq_true, if_false]
      by_cases h3 : -1152921504606846976 ≤ a + b ∧ a + b ≤ 1152921504606846976
      · simp [h3]
      · simp [h3]
    · simp [pack_Add.j0, h1, h2]
  · simp [pack_Add.j0, h1]

theorem and_mask (x : Int) (h : 0 ≤ x) (h2 : x < 18446744073709551616) : Go.bits .and .u64 x 4294967295 = x % 4294967296 := by
  have := bits_mask .u64 64 (by decide) (by intro n h h'; simp [IntKind.wrap, IntKind.bits, IntKind.signed]; omega) 32 (by decide) x h (by simpa using h2)
  simpa using this

theorem mul_split (x y x1 x0 y1 y0 : Int) (hx : x = x1 * 4294967296 + x0) (hy : y = y1 * 4294967296 + y0) : x * y = x1 * y1 * 18446744073709551616 + (x1 * y0 + x0 * y1) * 4294967296 + x0 * y0 := by
  subst hx hy
  simp only [Int.add_mul, Int.mul_add]
  have e1 : x1 * 4294967296 * (y1 * 4294967296) = x1 * y1 * 18446744073709551616 := by
    rw [Int.mul_assoc, Int.mul_left_comm 4294967296 y1, ← Int.mul_assoc]
    rfl
  have e2 : x1 * 4294967296 * y0 = x1 * y0 * 4294967296 := Int.mul_right_comm ..
  have e3 : x0 * (y1 * 4294967296) = x0 * y1 * 4294967296 := (Int.mul_assoc ..).symm
  rw [e1, e2, e3]
  omega

theorem prod_le {a b c d : Int} (ha : 0 ≤ a) (hb : 0 ≤ b) (h1 : a ≤ c) (h2 : b ≤ d) : 0 ≤ a * b ∧ a * b ≤ c * d :=
  ⟨Int.mul_nonneg ha hb, Int.mul_le_mul h1 h2 hb (by omega)⟩

theorem mul64_tells (x y : Int) (hx : 0 ≤ x ∧ x ≤ 1152921504606846976) (hy : 0 ≤ y ∧ y ≤ 1152921504606846976) :
    bits_Mul64.f x y = some (x * y / 18446744073709551616, x * y % 18446744073709551616) := by
  unfold bits_Mul64.f
  have hs := mul_split x y (x / 4294967296) (x % 4294967296) (y / 4294967296) (y % 4294967296) (by omega) (by omega)
  have p11 := prod_le (a := x / 4294967296) (b := y / 4294967296) (c := 268435456) (d := 268435456) (by omega) (by omega) (by omega) (by omega)
  have p10 := prod_le (a := x / 4294967296) (b := y % 4294967296) (c := 268435456) (d := 4294967295) (by omega) (by omega) (by omega) (by omega)
  have p01 := prod_le (a := x % 4294967296) (b := y / 4294967296) (c := 4294967295) (d := 268435456) (by omega) (by omega) (by omega) (by omega)
  have p00 := prod_le (a := x % 4294967296) (b := y % 4294967296) (c := 4294967295) (d := 4294967295) (by omega) (by omega) (by omega) (by omega)
  simp only [and_mask x hx.1 (by omega), and_mask y hy.1 (by omega)]
  generalize x / 4294967296 * (y / 4294967296) = q11 at *
  generalize x / 4294967296 * (y % 4294967296) = q10 at *
  generalize x % 4294967296 * (y / 4294967296) = q01 at *
  generalize x % 4294967296 * (y % 4294967296) = q00 at *
  rw [hs]
  simp only [u64_wrap]
  have w0 : q00 % 18446744073709551616 = q00 := by omega
  have w1 : q10 % 18446744073709551616 = q10 := by omega
  have w2 : q01 % 18446744073709551616 = q01 := by omega
  have w3 : q11 % 18446744073709551616 = q11 := by omega
  rw [w0, w1, w2, w3]
  rw [and_mask _ (by omega) (by omega)]
  congr 2 <;> omega

theorem size_tells (a : Int) (h : -1152921504606846976 ≤ a ∧ a ≤ 1152921504606846976) : pack_size.f a = some (a.natAbs : Int) := by
  unfold pack_size.f
  split
  · rw [wrap64_id (by omega) (by omega), u64_wrap]
    congr 1
    omega
  · rw [u64_wrap]
    congr 1
    omega

theorem times_tells (k : Nat) (a b : Int) :
    pack_Times.f (k + 1) a b = some (if (-1152921504606846976 ≤ a ∧ a ≤ 1152921504606846976) ∧ (-1152921504606846976 ≤ b ∧ b ≤ 1152921504606846976) then (if -1152921504606846976 ≤ a * b ∧ a * b ≤ 1152921504606846976 then (a * b, 0) else (0, 2)) else (0, 1)) := by
  simp only [pack_Times.f, may_tells, Option.bind_some]
  by_cases h1 : -1152921504606846976 ≤ a ∧ a ≤ 1152921504606846976
  · by_cases h2 : -1152921504606846976 ≤ b ∧ b ≤ 1152921504606846976
    · simp only [pack_Times.j0, size_tells a h1, size_tells b h2, Option.bind_some, decide_eq_true h1, decide_eq_true h2, if_true, Bool.not_true]
      have h12 : (-1152921504606846976 ≤ a ∧ a ≤ 1152921504606846976) ∧ (-1152921504606846976 ≤ b ∧ b ≤ 1152921504606846976) := ⟨h1, h2⟩
      rw [mul64_tells _ _ ⟨by omega, by omega⟩ ⟨by omega, by omega⟩, if_pos h12]
      have e : (a.natAbs : Int) * (b.natAbs : Int) = ((a * b).natAbs : Int) := by rw [Int.natAbs_mul, Int.natCast_mul]
      simp only [Option.bind_some, Bool.false_eq_true, if_false]
      rw [e]
      generalize hp : a * b = p at *
      by_cases h3 : -1152921504606846976 ≤ p ∧ p ≤ 1152921504606846976
      · rw [if_neg (by omega), if_neg (by omega), if_pos h3, wrap64_id (by omega) (by omega)]
      · rw [if_neg h3]
        by_cases h4 : (p.natAbs : Int) / 18446744073709551616 > 0
        · rw [if_pos h4]
        · rw [if_neg h4, if_pos (by omega)]
    · simp [pack_Times.j0, h1, h2]
  · simp [pack_Times.j0, h1]
theorem ref_may_tells (a : Int) : tarryref01_May.f a = some (decide (-1152921504606846976 ≤ a ∧ a ≤ 1152921504606846976)) := by
  unfold tarryref01_May.f
  split <;> simp <;> omega

/-- The halving: what is left to add is a * b. -/
theorem ref_times_loop (s : Bool) (k : Nat) : ∀ (_ a b n : Int), 0 ≤ a → a ≤ 1152921504606846976 ∨ (b = 0 ∧ a ≤ 2305843009213693952) → 0 ≤ b → b < 2 ^ k → b ≤ 1152921504606846976 → 0 ≤ n → n ≤ 1152921504606846976 →
    tarryref01_Times.l0 (k + 1) a b s n = some (if n + a * b ≤ 1152921504606846976 then ((if s = true then -(n + a * b) else n + a * b), true) else (0, false)) := by
  induction k with
  | zero =>
    intro _ a b n ha ha2 hb hk hb2 hn hn2
    have e : b = 0 := by simp at hk; omega
    subst e
    simp only [tarryref01_Times.l0, Int.mul_zero, Int.add_zero]
    rw [if_neg (by omega), if_pos hn2]
    cases s <;> simp
    exact wrap64_id (by omega) (by omega)
  | succ k ih =>
    intro _ a b n ha ha2 hb hk hb2 hn hn2
    by_cases h0 : b = 0
    · subst h0
      rw [tarryref01_Times.l0]
      simp only [Int.mul_zero, Int.add_zero]
      rw [if_neg (by omega), if_pos hn2]
      cases s <;> simp
      exact wrap64_id (by omega) (by omega)
    · have hpos : 0 < b := by omega
      have ha3 : a ≤ 1152921504606846976 := by omega
      have t1 : Int.tmod b 2 = b % 2 := Int.tmod_eq_emod_of_nonneg hb
      have t2 : Int.tdiv b 2 = b / 2 := Int.tdiv_eq_ediv_of_nonneg hb
      have t3 : wrap64 (b / 2) = b / 2 := wrap64_id (by omega) (by omega)
      have t4 : wrap64 (2 * a) = 2 * a := wrap64_id (by omega) (by omega)
      have t5 : wrap64 (n + a) = n + a := wrap64_id (by omega) (by omega)
      have hk2 : b / 2 < 2 ^ k := by
        have : (2 : Int) ^ (k + 1) = 2 ^ k * 2 := Int.pow_succ ..
        omega
      have hab : a * b = 2 * a * (b / 2) + a * (b % 2) := by
        have : b = 2 * (b / 2) + b % 2 := by omega
        conv => lhs; rw [this]
        rw [Int.mul_add, ← Int.mul_assoc, Int.mul_comm a 2]
      have hge : 1 ≤ b / 2 → 2 * a ≤ 2 * a * (b / 2) := fun h => by
        have := Int.mul_le_mul_of_nonneg_left h (show 0 ≤ 2 * a by omega)
        omega
      have hnn : 0 ≤ 2 * a * (b / 2) := Int.mul_nonneg (by omega) (by omega)
      rw [tarryref01_Times.l0]
      simp only [t1, t2, t3, t4, t5, ref_may_tells, Option.bind_some, decide_eq_true_eq]
      rw [if_pos hpos]
      by_cases ho : b % 2 = 1
      · rw [if_pos ho]
        rw [ho, Int.mul_one] at hab
        by_cases hm : -1152921504606846976 ≤ n + a ∧ n + a ≤ 1152921504606846976
        · rw [if_pos hm]
          by_cases hb3 : b / 2 > 0
          · rw [if_pos hb3]
            by_cases hm2 : -1152921504606846976 ≤ 2 * a ∧ 2 * a ≤ 1152921504606846976
            · rw [if_pos hm2, ih 0 (2 * a) (b / 2) (n + a) (by omega) (by omega) (by omega) hk2 (by omega) (by omega) (by omega)]
              have : n + a + 2 * a * (b / 2) = n + a * b := by omega
              rw [this]
            · rw [if_neg hm2, if_neg (by have := hge (by omega); omega)]
          · rw [if_neg hb3, ih 0 (2 * a) (b / 2) (n + a) (by omega) (by omega) (by omega) hk2 (by omega) (by omega) (by omega)]
            have : n + a + 2 * a * (b / 2) = n + a * b := by omega
            rw [this]
        · rw [if_neg hm, if_neg (by omega)]
      · have ho2 : b % 2 = 0 := by omega
        rw [if_neg ho]
        rw [ho2, Int.mul_zero, Int.add_zero] at hab
        by_cases hb3 : b / 2 > 0
        · rw [if_pos hb3]
          by_cases hm2 : -1152921504606846976 ≤ 2 * a ∧ 2 * a ≤ 1152921504606846976
          · rw [if_pos hm2, ih 0 (2 * a) (b / 2) n (by omega) (by omega) (by omega) hk2 (by omega) (by omega) (by omega), hab]
          · rw [if_neg hm2, if_neg (by have := hge (by omega); omega)]
        · rw [if_neg hb3, ih 0 (2 * a) (b / 2) n (by omega) (by omega) (by omega) hk2 (by omega) (by omega) (by omega), hab]

theorem ref_times_j0 (s : Bool) (a b : Int) (ha : -1152921504606846976 ≤ a ∧ a ≤ 1152921504606846976) (hb : -1152921504606846976 ≤ b ∧ b ≤ 1152921504606846976) :
    tarryref01_Times.j0 65 a b s = some (if (a.natAbs : Int) * b.natAbs ≤ 1152921504606846976 then ((if s = true then -((a.natAbs : Int) * b.natAbs) else (a.natAbs : Int) * b.natAbs), true) else (0, false)) := by
  have h : ∀ x y : Int, 0 ≤ x → x ≤ 1152921504606846976 → 0 ≤ y → y ≤ 1152921504606846976 → tarryref01_Times.j2 63 x y s = some (if x * y ≤ 1152921504606846976 then ((if s = true then -(x * y) else x * y), true) else (0, false)) := by
    intro x y h1 h2 h3 h4
    rw [tarryref01_Times.j2, ref_times_loop s 61 0 x y 0 h1 (.inl h2) h3 (by omega) h4 (by omega) (by omega), Int.zero_add]
  have n1 : wrap64 (-a) = -a := wrap64_id (by omega) (by omega)
  have n2 : wrap64 (-b) = -b := wrap64_id (by omega) (by omega)
  simp only [tarryref01_Times.j0, tarryref01_Times.j1, n1, n2]
  by_cases ha0 : a < 0 <;> by_cases hb0 : b < 0 <;> simp only [ha0, hb0, if_true, if_false] <;> rw [h _ _ (by omega) (by omega) (by omega) (by omega)]
  · have e1 : (a.natAbs : Int) = -a := by omega
    have e2 : (b.natAbs : Int) = -b := by omega
    rw [e1, e2]
  · have e1 : (a.natAbs : Int) = -a := by omega
    have e2 : (b.natAbs : Int) = b := by omega
    rw [e1, e2]
  · have e1 : (a.natAbs : Int) = a := by omega
    have e2 : (b.natAbs : Int) = -b := by omega
    rw [e1, e2]
  · have e1 : (a.natAbs : Int) = a := by omega
    have e2 : (b.natAbs : Int) = b := by omega
    rw [e1, e2]

theorem ref_times_tells (a b : Int) (ha : -1152921504606846976 ≤ a ∧ a ≤ 1152921504606846976) (hb : -1152921504606846976 ≤ b ∧ b ≤ 1152921504606846976) :
    tarryref01_Times.f 65 a b = some (if -1152921504606846976 ≤ a * b ∧ a * b ≤ 1152921504606846976 then (a * b, true) else (0, false)) := by
  have e : (a.natAbs : Int) * (b.natAbs : Int) = ((a * b).natAbs : Int) := by rw [Int.natAbs_mul, Int.natCast_mul]
  have fin : ∀ s : Bool, (s = true → a * b ≤ 0) → (s = false → 0 ≤ a * b) → tarryref01_Times.j0 65 a b s = some (if -1152921504606846976 ≤ a * b ∧ a * b ≤ 1152921504606846976 then (a * b, true) else (0, false)) := by
    intro s h1 h2
    rw [ref_times_j0 s a b ha hb, e]
    generalize a * b = p at *
    by_cases hp : -1152921504606846976 ≤ p ∧ p ≤ 1152921504606846976
    · rw [if_pos hp, if_pos (by omega)]
      cases s
      · have := h2 rfl
        simp
        omega
      · have := h1 rfl
        simp
        omega
    · rw [if_neg hp, if_neg (by omega)]
  unfold tarryref01_Times.f
  by_cases h1 : a < 0
  · rw [if_pos h1]
    by_cases h2 : b > 0
    · rw [if_pos h2]
      exact fin true (fun _ => Int.mul_nonpos_of_nonpos_of_nonneg (by omega) (by omega)) (fun h => by cases h)
    · rw [if_neg h2, if_neg (by omega)]
      exact fin false (fun h => by cases h) (fun _ => Int.mul_nonneg_of_nonpos_of_nonpos (by omega) (by omega))
  · rw [if_neg h1]
    by_cases h2 : a > 0
    · rw [if_pos h2]
      refine fin _ (fun h => ?_) (fun h => ?_)
      · have : b < 0 := by simpa using h
        exact Int.mul_nonpos_of_nonneg_of_nonpos (by omega) (by omega)
      · have : ¬ b < 0 := by simpa using h
        exact Int.mul_nonneg (by omega) (by omega)
    · rw [if_neg h2]
      have h0 : a = 0 := by omega
      exact fin false (fun h => by cases h) (fun _ => by rw [h0, Int.zero_mul]; omega)

theorem PackSums : tarrylaw01_PackSums.Pure := by
  intro a b wa wb
  have ha := wf64 wa
  have hb := wf64 wb
  refine ⟨66, ?_⟩
  simp only [tarrylaw01_PackSums.f, add_tells 65 a b ha hb, times_tells 65 a b, ref_may_tells, Option.bind_some]
  have al : tarrylaw01_alive.f 65 = some true := alive_tells 60
  by_cases h1 : -1152921504606846976 ≤ a ∧ a ≤ 1152921504606846976
  · by_cases h2 : -1152921504606846976 ≤ b ∧ b ≤ 1152921504606846976
    · have e : wrap64 (a + b) = a + b := wrap64_id (by omega) (by omega)
      have h12 : (-1152921504606846976 ≤ a ∧ a ≤ 1152921504606846976) ∧ (-1152921504606846976 ≤ b ∧ b ≤ 1152921504606846976) := ⟨h1, h2⟩
      simp only [if_pos h12, decide_eq_true h1, decide_eq_true h2, Bool.not_true, if_true, tarrylaw01_PackSums.j0, tarrylaw01_PackSums.j1, ref_times_tells a b h1 h2, ref_may_tells, e, Option.bind_some]
      generalize a * b = p
      generalize a + b = q at *
      by_cases h3 : -1152921504606846976 ≤ p ∧ p ≤ 1152921504606846976 <;> by_cases h4 : -1152921504606846976 ≤ q ∧ q ≤ 1152921504606846976 <;>
        simp [h3, h4, al]
    · simp [h1, h2, tarrylaw01_PackSums.j0, al]
  · simp [h1, tarrylaw01_PackSums.j0, al]

end Go.Proofs.Ytacenfolbmdpoaa.Pure
