/- PackTurns: for any two whole numbers, sums and products may be turned about, what is added is taken off again, and a number's bytes are as many as it is great; no further condition. -/
import Derived.Test.YtacenfolbmdpoaaPPackTurnsx2
namespace Go.Proofs.Ytacenfolbmdpoaa.Pure
open Go.RowKit Go.Proofs.Ytacenfolbmdpoaa.PPackTurns Go.Proofs.YtacenfolbmdpoaaW.PrintWords Go.Proofs.YtacenfolbmdpoaaW.PrintLast
theorem ba_toList_loop (a : ByteArray) : ∀ (d i : Nat) (r : List UInt8), a.size - i = d → ByteArray.toList.loop a i r = r.reverse ++ a.data.toList.drop i := by
  intro d
  induction d with
  | zero =>
    intro i r h
    unfold ByteArray.toList.loop
    have h1 : ¬ i < a.size := by omega
    rw [if_neg h1, List.drop_eq_nil_of_le (by show a.data.toList.length ≤ i; rw [Array.length_toList]; exact Nat.le_of_not_lt h1), List.append_nil]
  | succ d ih =>
    intro i r h
    unfold ByteArray.toList.loop
    have h1 : i < a.size := by omega
    have h2 : i < a.data.toList.length := by rw [Array.length_toList]; exact h1
    rw [if_pos h1, ih (i + 1) _ (by omega), List.reverse_cons, List.append_assoc, List.drop_eq_getElem_cons h2]
    have h3 : a.get! i = a.data.toList[i] := by
      show a.data[i]! = _
      rw [getElem!_pos a.data i h1]
      rfl
    rw [h3]
    rfl
theorem ba_toList (a : ByteArray) : a.toList = a.data.toList := by
  unfold ByteArray.toList
  rw [ba_toList_loop a a.size 0 [] (by omega)]
  rfl
theorem wf64 {a : Int} (h : (Lit.int .i64 a).wf = true) : -9223372036854775808 ≤ a ∧ a ≤ 9223372036854775807 := by
  simpa [Lit.wf, IntKind.min, IntKind.max, IntKind.signed, IntKind.bits] using h
theorem wrap64_id {a : Int} (h : -9223372036854775808 ≤ a) (h' : a ≤ 9223372036854775807) : wrap64 a = a := by
  unfold wrap64
  omega
theorem u64_wrap (x : Int) : IntKind.u64.wrap x = x % 18446744073709551616 := by simp [IntKind.wrap, IntKind.bits, IntKind.signed]
theorem may_tells (a : Int) : pack_may.f a = some (decide (-1152921504606846976 ≤ a ∧ a ≤ 1152921504606846976)) := by
  unfold pack_may.f
  split <;> simp <;> omega
theorem alive_tells (k : Nat) : tarrylaw01_alive.f (k + 5) = some true := by
  simp only [tarrylaw01_alive.f, pack_Number.f, may_tells, Option.bind_some]
  simp [pack_Number.j0, pack_Number.l0, wrap64, ba_toList, strOfNums]
theorem add_tells (k : Nat) (a b : Int) (ha : -9223372036854775808 ≤ a ∧ a ≤ 9223372036854775807) (hb : -9223372036854775808 ≤ b ∧ b ≤ 9223372036854775807) :
    pack_Add.f (k + 1) a b = some (if (-1152921504606846976 ≤ a ∧ a ≤ 1152921504606846976) ∧ (-1152921504606846976 ≤ b ∧ b ≤ 1152921504606846976) then (if -1152921504606846976 ≤ a + b ∧ a + b ≤ 1152921504606846976 then (a + b, 0) else (0, 2)) else (0, 1)) := by
  simp only [pack_Add.f, may_tells, Option.bind_some]
  by_cases h1 : -1152921504606846976 ≤ a ∧ a ≤ 1152921504606846976
  · by_cases h2 : -1152921504606846976 ≤ b ∧ b ≤ 1152921504606846976
    · have e : wrap64 (a + b) = a + b := wrap64_id (by omega) (by omega)
      simp only [pack_Add.j0, may_tells, e, Option.bind_some, decide_eq_true h1, decide_eq_true h2, if_true, Bool.not_true]
      have h12 : (-1152921504606846976 ≤ a ∧ a ≤ 1152921504606846976) ∧ (-1152921504606846976 ≤ b ∧ b ≤ 1152921504606846976) := ⟨h1, h2⟩
      rw [if_pos h12]
      simp only [Bool.false_eq_true, if_false]
      by_cases h3 : -1152921504606846976 ≤ a + b ∧ a + b ≤ 1152921504606846976
      · simp [h3]
      · simp [h3]
    · simp [pack_Add.j0, h1, h2]
  · simp [pack_Add.j0, h1]

theorem and_mask (x : Int) (h : 0 ≤ x) (h2 : x < 18446744073709551616) : Go.bits .and .u64 x 4294967295 = x % 4294967296 := by
  have := bits_mask .u64 64 (by decide) (by intro n h h'; simp [IntKind.wrap, IntKind.bits, IntKind.signed]; omega) 32 (by decide) x h (by simpa using h2)
  simpa using this

theorem mul_split (x y x1 x0 y1 y0 : Int) (hx : x = x1 * 4294967296 + x0) (hy : y = y1 * 4294967296 + y0) : x * y = x1 * y1 * 18446744073709551616 + (x1 * y0 + x0 * y1) * 4294967296 + x0 * y0 := by
  subst hx hy
  simp only [Int.add_mul, Int.mul_add]
  have e1 : x1 * 4294967296 * (y1 * 4294967296) = x1 * y1 * 18446744073709551616 := by
    rw [Int.mul_assoc, Int.mul_left_comm 4294967296 y1, ← Int.mul_assoc]
    rfl
  have e2 : x1 * 4294967296 * y0 = x1 * y0 * 4294967296 := Int.mul_right_comm ..
  have e3 : x0 * (y1 * 4294967296) = x0 * y1 * 4294967296 := (Int.mul_assoc ..).symm
  rw [e1, e2, e3]
  omega

theorem prod_le {a b c d : Int} (ha : 0 ≤ a) (hb : 0 ≤ b) (h1 : a ≤ c) (h2 : b ≤ d) : 0 ≤ a * b ∧ a * b ≤ c * d :=
  ⟨Int.mul_nonneg ha hb, Int.mul_le_mul h1 h2 hb (by omega)⟩

theorem mul64_tells (x y : Int) (hx : 0 ≤ x ∧ x ≤ 1152921504606846976) (hy : 0 ≤ y ∧ y ≤ 1152921504606846976) :
    bits_Mul64.f x y = some (x * y / 18446744073709551616, x * y % 18446744073709551616) := by
  unfold bits_Mul64.f
  have hs := mul_split x y (x / 4294967296) (x % 4294967296) (y / 4294967296) (y % 4294967296) (by omega) (by omega)
  have p11 := prod_le (a := x / 4294967296) (b := y / 4294967296) (c := 268435456) (d := 268435456) (by omega) (by omega) (by omega) (by omega)
  have p10 := prod_le (a := x / 4294967296) (b := y % 4294967296) (c := 268435456) (d := 4294967295) (by omega) (by omega) (by omega) (by omega)
  have p01 := prod_le (a := x % 4294967296) (b := y / 4294967296) (c := 4294967295) (d := 268435456) (by omega) (by omega) (by omega) (by omega)
  have p00 := prod_le (a := x % 4294967296) (b := y % 4294967296) (c := 4294967295) (d := 4294967295) (by omega) (by omega) (by omega) (by omega)
  simp only [and_mask x hx.1 (by omega), and_mask y hy.1 (by omega)]
  generalize x / 4294967296 * (y / 4294967296) = q11 at *
  generalize x / 4294967296 * (y % 4294967296) = q10 at *
  generalize x % 4294967296 * (y / 4294967296) = q01 at *
  generalize x % 4294967296 * (y % 4294967296) = q00 at *
  rw [hs]
  simp only [u64_wrap]
  have w0 : q00 % 18446744073709551616 = q00 := by omega
  have w1 : q10 % 18446744073709551616 = q10 := by omega
  have w2 : q01 % 18446744073709551616 = q01 := by omega
  have w3 : q11 % 18446744073709551616 = q11 := by omega
  rw [w0, w1, w2, w3]
  rw [and_mask _ (by omega) (by omega)]
  congr 2 <;> omega

theorem size_tells (a : Int) (h : -1152921504606846976 ≤ a ∧ a ≤ 1152921504606846976) : pack_size.f a = some (a.natAbs : Int) := by
  unfold pack_size.f
  split
  · rw [wrap64_id (by omega) (by omega), u64_wrap]
    congr 1
    omega
  · rw [u64_wrap]
    congr 1
    omega

theorem times_tells (k : Nat) (a b : Int) :
    pack_Times.f (k + 1) a b = some (if (-1152921504606846976 ≤ a ∧ a ≤ 1152921504606846976) ∧ (-1152921504606846976 ≤ b ∧ b ≤ 1152921504606846976) then (if -1152921504606846976 ≤ a * b ∧ a * b ≤ 1152921504606846976 then (a * b, 0) else (0, 2)) else (0, 1)) := by
  simp only [pack_Times.f, may_tells, Option.bind_some]
  by_cases h1 : -1152921504606846976 ≤ a ∧ a ≤ 1152921504606846976
  · by_cases h2 : -1152921504606846976 ≤ b ∧ b ≤ 1152921504606846976
    · simp only [pack_Times.j0, size_tells a h1, size_tells b h2, Option.bind_some, decide_eq_true h1, decide_eq_true h2, if_true, Bool.not_true]
      have h12 : (-1152921504606846976 ≤ a ∧ a ≤ 1152921504606846976) ∧ (-1152921504606846976 ≤ b ∧ b ≤ 1152921504606846976) := ⟨h1, h2⟩
      rw [mul64_tells _ _ ⟨by omega, by omega⟩ ⟨by omega, by omega⟩, if_pos h12]
      have e : (a.natAbs : Int) * (b.natAbs : Int) = ((a * b).natAbs : Int) := by rw [Int.natAbs_mul, Int.natCast_mul]
      simp only [Option.bind_some, Bool.false_eq_true, if_false]
      rw [e]
      generalize hp : a * b = p at *
      by_cases h3 : -1152921504606846976 ≤ p ∧ p ≤ 1152921504606846976
      · rw [if_neg (by omega), if_neg (by omega), if_pos h3, wrap64_id (by omega) (by omega)]
      · rw [if_neg h3]
        by_cases h4 : (p.natAbs : Int) / 18446744073709551616 > 0
        · rw [if_pos h4]
        · rw [if_neg h4, if_pos (by omega)]
    · simp [pack_Times.j0, h1, h2]
  · simp [pack_Times.j0, h1]
/-- The bytes of a number, by sevens, the lowest first. -/
def digs : Nat → Int → List Int
  | 0, x => [x]
  | n + 1, x => if x ≥ 128 then (x % 128 + 128) :: digs n (x / 128) else [x]

theorem number_loop (n : Nat) : ∀ (k : Nat) (x : Int) (acc : List Int), 0 ≤ x → x < 128 * 128 ^ n → x ≤ 9223372036854775807 → acc.length + n ≤ 100 →
    pack_Number.l0 (k + n + 1) x acc = some (strOfNums (acc ++ digs n x), 0) := by
  induction n with
  | zero =>
    intro k x acc h0 h1 h2 h3
    rw [pack_Number.l0]
    have h1' : x < 128 := by simpa using h1
    rw [if_neg (by omega), if_pos (by omega)]
    have e : x % 256 = x := by omega
    rw [e]
    rfl
  | succ n ih =>
    intro k x acc h0 h1 h2 h3
    rw [show k + (n + 1) + 1 = (k + n + 1) + 1 by omega, pack_Number.l0]
    by_cases h : x ≥ 128
    · have t1 : Int.tmod x 128 = x % 128 := Int.tmod_eq_emod_of_nonneg h0
      have t2 : Int.tdiv x 128 = x / 128 := Int.tdiv_eq_ediv_of_nonneg h0
      have t3 : wrap64 (x / 128) = x / 128 := wrap64_id (by omega) (by omega)
      have t4 : wrap64 (x % 128 + 128) % 256 = x % 128 + 128 := by rw [wrap64_id (by omega) (by omega)]; omega
      rw [if_pos h, if_pos (by omega), t1, t2, t3, t4]
      have hp : (128 : Int) ^ (n + 1) = 128 ^ n * 128 := Int.pow_succ ..
      rw [ih k (x / 128) _ (by omega) (by omega) (by omega) (by simp; omega)]
      rw [digs, if_pos h, List.append_assoc]
      rfl
    · rw [if_neg h, if_pos (by omega), digs, if_neg h]
      have e : x % 256 = x := by omega
      rw [e]

/-- What a number is as a whole number without a sign. -/
def zig (a : Int) : Int := if a < 0 then -2 * a - 1 else 2 * a

theorem number_tells (k : Nat) (a : Int) : pack_Number.f (k + 11) a =
    some (if -1152921504606846976 ≤ a ∧ a ≤ 1152921504606846976 then (strOfNums (digs 8 (zig a)), 0) else ((⟨#[]⟩ : ByteArray), 1)) := by
  simp only [pack_Number.f, may_tells, Option.bind_some, decide_eq_true_eq]
  by_cases h : -1152921504606846976 ≤ a ∧ a ≤ 1152921504606846976
  · rw [if_pos h, if_pos h]
    have hz : 0 ≤ zig a ∧ zig a ≤ 2305843009213693952 := by unfold zig; split <;> omega
    have hl := number_loop 8 (k + 1) (zig a) [] hz.1 (by omega) (by omega) (by simp)
    rw [List.nil_append] at hl
    by_cases h0 : a < 0
    · have e : wrap64 (wrap64 (-2 * a) - 1) = zig a := by rw [wrap64_id (a := -2 * a) (by omega) (by omega), wrap64_id (by omega) (by omega)]; unfold zig; rw [if_pos h0]
      rw [if_pos h0, e, pack_Number.j0, hl]
    · have e : wrap64 (2 * a) = zig a := by rw [wrap64_id (by omega) (by omega)]; unfold zig; rw [if_neg h0]
      rw [if_neg h0, e, pack_Number.j0, hl]
  · rw [if_neg h, if_neg h]

theorem digs_pos (n : Nat) (x : Int) : 1 ≤ (digs n x).length := by
  cases n <;> simp [digs]
  split <;> simp
theorem digs_mono (n : Nat) : ∀ x y : Int, 0 ≤ x → x ≤ y → (digs n x).length ≤ (digs n y).length := by
  induction n with
  | zero => intros; simp [digs]
  | succ n ih =>
    intro x y h0 h
    rw [digs, digs]
    by_cases h1 : x ≥ 128
    · rw [if_pos h1, if_pos (by omega)]
      have := ih (x / 128) (y / 128) (by omega) (by omega)
      simp only [List.length_cons]
      omega
    · rw [if_neg h1]
      have := digs_pos (n + 1) y
      rw [digs] at this
      simpa using this
theorem digs_next (n : Nat) : ∀ x : Int, 0 ≤ x → (digs n (x + 1)).length ≤ (digs n x).length + 1 := by
  induction n with
  | zero => intros; simp [digs]
  | succ n ih =>
    intro x h0
    rw [digs, digs]
    by_cases h1 : x ≥ 128
    · rw [if_pos h1, if_pos (by omega)]
      simp only [List.length_cons]
      by_cases h2 : x % 128 = 127
      · have e : (x + 1) / 128 = x / 128 + 1 := by omega
        rw [e]
        have := ih (x / 128) (by omega)
        omega
      · have e : (x + 1) / 128 = x / 128 := by omega
        rw [e]
        omega
    · rw [if_neg h1]
      by_cases h2 : x + 1 ≥ 128
      · rw [if_pos h2]
        have e : (x + 1) / 128 = 1 := by omega
        rw [e]
        cases n <;> simp [digs]
      · rw [if_neg h2]
        simp
theorem size_str (l : List Int) : (strOfNums l).size = l.length := strOfNums_size l

theorem sizes (a : Int) (h : -1152921504606846976 ≤ a ∧ a ≤ 1152921504606846976) :
    (digs 8 (zig a)).length ≤ (digs 8 (zig (-a))).length + 1 ∧ (digs 8 (zig (-a))).length ≤ (digs 8 (zig a)).length + 1 := by
  have key : ∀ b : Int, 0 < b → (digs 8 (2 * b - 1)).length ≤ (digs 8 (2 * b)).length ∧ (digs 8 (2 * b)).length ≤ (digs 8 (2 * b - 1)).length + 1 := fun b hb => by
    have h1 := digs_mono 8 (2 * b - 1) (2 * b) (by omega) (by omega)
    have h2 := digs_next 8 (2 * b - 1) (by omega)
    rw [show 2 * b - 1 + 1 = 2 * b by omega] at h2
    exact ⟨h1, h2⟩
  unfold zig
  by_cases h0 : a < 0
  · rw [if_pos h0, if_neg (by omega)]
    have := key (-a) (by omega)
    rw [show 2 * -a - 1 = -2 * a - 1 by omega] at this
    omega
  · by_cases h1 : a = 0
    · subst h1
      simp
    · rw [if_neg h0, if_pos (by omega)]
      have := key a (by omega)
      rw [show 2 * a - 1 = -2 * -a - 1 by omega] at this
      omega

theorem j2_tells (k : Nat) (a : Int) (h : -9223372036854775808 ≤ a ∧ a ≤ 9223372036854775807) : tarrylaw01_PackTurns.j2 (k + 12) a false = some true := by
  rw [tarrylaw01_PackTurns.j2, if_neg (by decide), number_tells k a]
  simp only [Option.bind_some]
  by_cases h1 : -1152921504606846976 ≤ a ∧ a ≤ 1152921504606846976
  · have e : wrap64 (-a) = -a := wrap64_id (by omega) (by omega)
    have h2 : -1152921504606846976 ≤ -a ∧ -a ≤ 1152921504606846976 := by omega
    have hs := sizes a h1
    have b1 : (digs 8 (zig a)).length ≤ 9 := by have := digs_mono 8 (zig a) (2 ^ 63) (by unfold zig; split <;> omega) (by unfold zig; split <;> omega); rw [show (digs 8 (2 ^ 63)).length = 9 by decide +kernel] at this; exact this
    have b2 : (digs 8 (zig (-a))).length ≤ 9 := by have := digs_mono 8 (zig (-a)) (2 ^ 63) (by unfold zig; split <;> omega) (by unfold zig; split <;> omega); rw [show (digs 8 (2 ^ 63)).length = 9 by decide +kernel] at this; exact this
    rw [e, number_tells k (-a), if_pos h1, if_pos h2]
    simp only [Option.bind_some, size_str]
    rw [if_pos (by decide), wrap64_id (by omega) (by omega), wrap64_id (by omega) (by omega), if_pos (by omega)]
    simp
    omega
  · have h2 : ¬ (-1152921504606846976 ≤ wrap64 (-a) ∧ wrap64 (-a) ≤ 1152921504606846976) := by unfold wrap64; omega
    rw [number_tells k (wrap64 (-a)), if_neg h1, if_neg h2]
    decide +kernel

theorem PackTurns : tarrylaw01_PackTurns.Pure := by
  intro a b wa wb
  have ha := wf64 wa
  have hb := wf64 wb
  refine ⟨30, ?_⟩
  have al : tarrylaw01_alive.f 30 = some true := alive_tells 25
  have j2 : tarrylaw01_PackTurns.j2 28 a false = some true := j2_tells 16 a ha
  simp only [tarrylaw01_PackTurns.f, add_tells 29 a b ha hb, add_tells 29 b a hb ha, times_tells 29 a b, times_tells 29 b a, Option.bind_some, al]
  rw [Int.add_comm b a, Int.mul_comm b a]
  by_cases h1 : -1152921504606846976 ≤ a ∧ a ≤ 1152921504606846976
  · by_cases h2 : -1152921504606846976 ≤ b ∧ b ≤ 1152921504606846976
    · have h12 : (-1152921504606846976 ≤ a ∧ a ≤ 1152921504606846976) ∧ (-1152921504606846976 ≤ b ∧ b ≤ 1152921504606846976) := ⟨h1, h2⟩
      have h21 : (-1152921504606846976 ≤ b ∧ b ≤ 1152921504606846976) ∧ (-1152921504606846976 ≤ a ∧ a ≤ 1152921504606846976) := ⟨h2, h1⟩
      have nb : wrap64 (-b) = -b := wrap64_id (by omega) (by omega)
      simp only [if_pos h12, if_pos h21, if_true, Bool.not_true]
      have j1 : ∀ p q : Int, (q = 0 → p = a * b) → tarrylaw01_PackTurns.j1 29 a b p q = some true := by
        intro p q hpq
        rw [tarrylaw01_PackTurns.j1]
        by_cases hq : q = 0
        · rw [if_pos hq]
          by_cases hb0 : b = 0
          · rw [if_pos hb0, j2]
          · have e : wrap64 (Int.tdiv (a * b) b) = a := by rw [Int.mul_tdiv_cancel _ hb0]; exact wrap64_id (by omega) (by omega)
            rw [if_neg hb0, hpq hq, e]
            simp [j2]
        · rw [if_neg hq, j2]
      have hj := j1 (if -1152921504606846976 ≤ a * b ∧ a * b ≤ 1152921504606846976 then ((a * b, 0) : Int × Int) else (0, 2)).1 (if -1152921504606846976 ≤ a * b ∧ a * b ≤ 1152921504606846976 then ((a * b, 0) : Int × Int) else (0, 2)).2 (by split <;> simp)
      rw [tarrylaw01_PackTurns.j0, if_neg (by decide)]
      by_cases h3 : -1152921504606846976 ≤ a + b ∧ a + b ≤ 1152921504606846976
      · rw [if_pos h3, nb, add_tells 28 (a + b) (-b) (by omega) (by omega)]
        have h4 : (-1152921504606846976 ≤ a + b ∧ a + b ≤ 1152921504606846976) ∧ (-1152921504606846976 ≤ -b ∧ -b ≤ 1152921504606846976) := ⟨h3, by omega⟩
        have h5 : -1152921504606846976 ≤ a + b + -b ∧ a + b + -b ≤ 1152921504606846976 := by omega
        rw [if_pos rfl, if_pos h4, if_pos h5]
        simp only [Option.bind_some]
        rw [if_pos trivial, if_pos (by omega)]
        exact hj
      · rw [if_neg h3, if_neg (by decide)]
        exact hj
    · simp [h1, h2, tarrylaw01_PackTurns.j0, tarrylaw01_PackTurns.j1, j2]
  · simp [h1, tarrylaw01_PackTurns.j0, tarrylaw01_PackTurns.j1, j2]

end Go.Proofs.Ytacenfolbmdpoaa.Pure
