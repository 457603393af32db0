/- Written by a program of this repo over the kit's print program: what the program's functions do, each as a Lean function, shown of the loaded code; or a statement's row over that; no condition of its own. -/
import Derived.Test.YtadmbihghbfdbaaPCheckSumsx0
import Derived.Test.YtadmbihghbfdbaaPCheckSumsx1
namespace Go.Proofs.Ytadmbihghbfdbaa.PCheckSums
open Go.RowKit Go.Proofs.YtadmbihghbfdbaaW.PrintWords Go.Proofs.YtadmbihghbfdbaaW.PrintLast Go.Proofs.YtadmbihghbfdbaaW.PrintMore
attribute [local go_sem] max2_int min2_int max_two min_two max_three min_three max_four min_four   -- for this text's walks alone
set_option linter.unusedVariables false
set_option linter.unusedSimpArgs false

/-! ### the law CheckSums (by hand) -/
theorem mn_le_left (a b : Int) : mn a b ≤ a := by unfold mn; split <;> omega
theorem mn_le_right (a b : Int) : mn a b ≤ b := by unfold mn; split <;> omega
theorem mn_nonneg {a b : Int} (h : 0 ≤ a) (h' : 0 ≤ b) : 0 ≤ mn a b := by unfold mn; split <;> omega
theorem fits_small {s : ByteArray} (h : s.size ≤ 1000000) : chk_fits s = true := by
  unfold chk_fits
  exact decide_eq_true (by omega)
/-- The xor of two, of 32 bits, in natural numbers. -/
theorem x32 (a b : Nat) (ha : a < 4294967296) (hb : b < 4294967296) : Go.bits .xor .u32 (a : Int) (b : Int) = ((a ^^^ b : Nat) : Int) := by
  have h : (a ^^^ b) < 4294967296 := Nat.xor_lt_two_pow (n := 32) ha hb
  simp only [Go.bits, IntKind.wrap_u32]
  have e1 : (BitVec.ofInt IntKind.u32.bits (a : Int) ^^^ BitVec.ofInt IntKind.u32.bits (b : Int)).toNat = a ^^^ b := by
    show (BitVec.ofInt 32 (a : Int) ^^^ BitVec.ofInt 32 (b : Int)).toNat = a ^^^ b
    rw [BitVec.toNat_xor]
    simp [BitVec.toNat_ofNat]
    rw [Nat.mod_eq_of_lt ha, Nat.mod_eq_of_lt hb]
  rw [e1]
  omega
theorem x8 (a b : Nat) (ha : a < 256) (hb : b < 256) : Go.bits .xor .u8 (a : Int) (b : Int) = ((a ^^^ b : Nat) : Int) := by
  have h : (a ^^^ b) < 256 := Nat.xor_lt_two_pow (n := 8) ha hb
  simp only [Go.bits, IntKind.wrap_u8]
  have e1 : (BitVec.ofInt IntKind.u8.bits (a : Int) ^^^ BitVec.ofInt IntKind.u8.bits (b : Int)).toNat = a ^^^ b := by
    show (BitVec.ofInt 8 (a : Int) ^^^ BitVec.ofInt 8 (b : Int)).toNat = a ^^^ b
    rw [BitVec.toNat_xor]
    simp [BitVec.toNat_ofNat]
    rw [Nat.mod_eq_of_lt ha, Nat.mod_eq_of_lt hb]
  rw [e1]
  omega
/-! The check, in natural numbers. -/
def cstp (c : Nat) : Nat := if c % 2 = 1 then (c / 2) ^^^ 2197175160 else c / 2
def cit : Nat → Nat → Nat
  | 0, c => c
  | n + 1, c => cstp (cit n c)
def bn (s : ByteArray) (i : Nat) : Nat := (s.data.toList.getD i 0).toNat
def cbyte (c b : Nat) : Nat := (c / 256) ^^^ cit 8 ((c % 256) ^^^ b)
def cupto (c : Nat) (s : ByteArray) : Nat → Nat
  | 0 => c
  | i + 1 => cbyte (cupto c s i) (bn s i)
theorem bn_lt (s : ByteArray) (i : Nat) : bn s i < 256 := UInt8.toNat_lt _
theorem bt_bn (s : ByteArray) (i : Nat) : bt s (i : Int) = (bn s i : Int) := by
  unfold bt bn
  have hl : s.data.toList.length = s.size := by rw [Array.length_toList]; rfl
  by_cases h : i < s.size
  · have h' : ((i : Int)).toNat < s.size := by simpa using h
    rw [dif_pos h']
    have h2 : i < s.data.toList.length := by omega
    simp [List.getD_eq_getElem?_getD, List.getElem?_eq_getElem h2]
    rfl
  · have h' : ¬ ((i : Int)).toNat < s.size := by simpa using h
    rw [dif_neg h']
    have h2 : s.data.toList.length ≤ i := by omega
    simp [List.getD_eq_getElem?_getD, List.getElem?_eq_none h2]
theorem cstp_lt (c : Nat) (h : c < 4294967296) : cstp c < 4294967296 := by
  unfold cstp
  split
  · exact Nat.xor_lt_two_pow (n := 32) (by omega) (by decide)
  · omega
theorem cit_lt (n c : Nat) (h : c < 4294967296) : cit n c < 4294967296 := by
  induction n with
  | zero => exact h
  | succ n ih => exact cstp_lt _ ih
theorem stp_n (c : Nat) (h : c < 4294967296) : chk_stp (c : Int) = (cstp c : Int) := by
  unfold chk_stp cstp
  by_cases hc : c % 2 = 1
  · rw [if_pos hc, if_pos (by omega)]
    have := x32 (c / 2) 2197175160 (by omega) (by decide)
    rw [← this]
    congr 1
  · rw [if_neg hc, if_neg (by omega)]
    omega
theorem it_n (n c : Nat) (h : c < 4294967296) : chk_it n (c : Int) = (cit n c : Int) := by
  induction n with
  | zero => rfl
  | succ n ih =>
    show chk_stp (chk_it n c) = (cstp (cit n c) : Int)
    rw [ih, stp_n _ (cit_lt n c h)]
theorem xor8_lt {a b : Nat} (ha : a < 256) (hb : b < 256) : a ^^^ b < 256 := Nat.xor_lt_two_pow (n := 8) ha hb
theorem cbyte_lt (c b : Nat) (h : c < 4294967296) (hb : b < 256) : cbyte c b < 4294967296 :=
  Nat.xor_lt_two_pow (n := 32) (by omega) (cit_lt _ _ (by have := xor8_lt (a := c % 256) (b := b) (by omega) hb; omega))
theorem byte_n (c b : Nat) (h : c < 4294967296) (hb : b < 256) : chk_byte (c : Int) (b : Int) = (cbyte c b : Int) := by
  unfold chk_byte cbyte
  have e1 : ((c : Int) % 256) = ((c % 256 : Nat) : Int) := by omega
  have e2 : ((c : Int) / 256) = ((c / 256 : Nat) : Int) := by omega
  have hx := xor8_lt (a := c % 256) (b := b) (by omega) hb
  rw [e1, e2, x8 _ _ (by omega) hb, it_n _ _ (by omega), x32 _ _ (by omega) (cit_lt _ _ (by omega))]
theorem cupto_lt (c : Nat) (s : ByteArray) (h : c < 4294967296) : ∀ i, cupto c s i < 4294967296
  | 0 => h
  | i + 1 => cbyte_lt _ _ (cupto_lt c s h i) (bn_lt s i)
theorem upto_n (c : Nat) (s : ByteArray) (h : c < 4294967296) : ∀ i, chk_upto (c : Int) s i = (cupto c s i : Int)
  | 0 => rfl
  | i + 1 => by
    show chk_byte (chk_upto (c : Int) s i) (bt s (i : Int)) = (cbyte (cupto c s i) (bn s i) : Int)
    rw [upto_n c s h i, bt_bn, byte_n _ _ (cupto_lt c s h i) (bn_lt s i)]
/-- The check of a text, on from another one. -/
def con (c : Nat) (s : ByteArray) : Nat := (cupto (c ^^^ 4294967295) s s.size) ^^^ 4294967295
theorem con_lt (c : Nat) (s : ByteArray) (h : c < 4294967296) : con c s < 4294967296 :=
  Nat.xor_lt_two_pow (n := 32) (cupto_lt _ _ (Nat.xor_lt_two_pow (n := 32) h (by decide)) _) (by decide)
theorem On_n (c : Nat) (s : ByteArray) (h : c < 4294967296) (hs : s.size ≤ 1000000) : check_On.f (c : Int) s = some (con c s : Int) := by
  have h1 : c ^^^ 4294967295 < 4294967296 := Nat.xor_lt_two_pow (n := 32) h (by decide)
  unfold check_On.f con
  rw [if_pos (fits_small hs)]
  have e1 : Go.bits .xor .u32 (c : Int) 4294967295 = ((c ^^^ 4294967295 : Nat) : Int) := x32 c 4294967295 h (by decide)
  rw [e1, upto_n _ _ h1]
  exact congrArg some (x32 _ 4294967295 (cupto_lt _ _ h1 _) (by decide))
theorem Of_n (s : ByteArray) (hs : s.size ≤ 1000000) : check_Of.f s = some (con 0 s : Int) := by
  unfold check_Of.f
  rw [show (0 : Int) = ((0 : Nat) : Int) from rfl, On_n 0 s (by decide) hs]
  rfl
theorem cupto_congr (c : Nat) (s t : ByteArray) : ∀ n, (∀ i, i < n → bn s i = bn t i) → cupto c s n = cupto c t n
  | 0, _ => rfl
  | n + 1, h => by
    show cbyte (cupto c s n) (bn s n) = cbyte (cupto c t n) (bn t n)
    rw [cupto_congr c s t n (fun i hi => h i (by omega)), h n (by omega)]
theorem cupto_add (c : Nat) (s t : ByteArray) (n : Nat) : ∀ m, (∀ i, i < m → bn s (n + i) = bn t i) → cupto c s (n + m) = cupto (cupto c s n) t m
  | 0, _ => rfl
  | m + 1, h => by
    show cbyte (cupto c s (n + m)) (bn s (n + m)) = cbyte (cupto (cupto c s n) t m) (bn t m)
    rw [cupto_add c s t n m (fun i hi => h i (by omega)), h m (by omega)]
theorem bn_left (s t : ByteArray) (i : Nat) (h : i < s.size) : bn (s ++ t) i = bn s i := by
  have h2 : i < s.data.toList.length := by rw [Array.length_toList]; exact h
  unfold bn
  rw [ByteArray.data_append, Array.toList_append, List.getD_eq_getElem?_getD, List.getElem?_append_left h2, ← List.getD_eq_getElem?_getD]
theorem bn_right (s t : ByteArray) (i : Nat) : bn (s ++ t) (s.size + i) = bn t i := by
  have h2 : s.data.toList.length = s.size := by rw [Array.length_toList]; rfl
  unfold bn
  rw [ByteArray.data_append, Array.toList_append, List.getD_eq_getElem?_getD, List.getElem?_append_right (by omega), h2, Nat.add_sub_cancel_left, ← List.getD_eq_getElem?_getD]
theorem con_app (c : Nat) (s t : ByteArray) : con (con c s) t = con c (s ++ t) := by
  unfold con
  have e : ∀ v : Nat, v ^^^ 4294967295 ^^^ 4294967295 = v := fun v => by rw [Nat.xor_assoc, Nat.xor_self, Nat.xor_zero]
  rw [e, ByteArray.size_append, cupto_add _ (s ++ t) t s.size t.size (fun i _ => bn_right s t i), cupto_congr _ (s ++ t) s s.size (fun i hi => bn_left s t i hi)]
theorem alive_f : tarrylaw02_alive.f = some true := by
  unfold tarrylaw02_alive.f
  rw [Of_n _ (by decide)]
  decide +kernel
theorem take_size (a : ByteArray) (n : Int) (h : n ≤ 200) : (a.extract 0 n.toNat).size ≤ 200 := by
  rw [ByteArray.size_extract]
  omega
/-! The check is linear. -/
theorem xor_half (x y : Nat) : (x ^^^ y) / 2 = x / 2 ^^^ y / 2 := by
  have h := Nat.shiftRight_xor_distrib (a := x) (b := y) (i := 1)
  simpa [Nat.shiftRight_eq_div_pow] using h
theorem xor_low (x y : Nat) : (x ^^^ y) % 2 = (x % 2 + y % 2) % 2 := by
  have h := Nat.xor_mod_two_pow (a := x) (b := y) (n := 1)
  simp only [Nat.pow_one] at h
  rw [h]
  rcases Nat.mod_two_eq_zero_or_one x with hx | hx <;> rcases Nat.mod_two_eq_zero_or_one y with hy | hy <;> rw [hx, hy] <;> rfl
theorem cstp_xor (x y : Nat) : cstp (x ^^^ y) = cstp x ^^^ cstp y := by
  unfold cstp
  rw [xor_low, xor_half]
  rcases Nat.mod_two_eq_zero_or_one x with hx | hx <;> rcases Nat.mod_two_eq_zero_or_one y with hy | hy <;> simp only [hx, hy] <;> simp
  · rw [Nat.xor_assoc]
  · rw [Nat.xor_assoc, Nat.xor_assoc, Nat.xor_comm (y / 2)]
  · rw [show (x / 2 ^^^ 2197175160) ^^^ (y / 2 ^^^ 2197175160) = (x / 2 ^^^ y / 2) ^^^ (2197175160 ^^^ 2197175160) by ac_rfl]
    simp
theorem cit_xor (n x y : Nat) : cit n (x ^^^ y) = cit n x ^^^ cit n y := by
  induction n with
  | zero => rfl
  | succ n ih =>
    show cstp (cit n (x ^^^ y)) = cstp (cit n x) ^^^ cstp (cit n y)
    rw [ih, cstp_xor]
theorem cit_front (n c : Nat) : cit n (cstp c) = cit (n + 1) c := by
  induction n with
  | zero => rfl
  | succ n ih =>
    show cstp (cit n (cstp c)) = cstp (cit (n + 1) c)
    rw [ih]
theorem cit_add (m n c : Nat) : cit m (cit n c) = cit (m + n) c := by
  induction m with
  | zero => rw [Nat.zero_add]; rfl
  | succ m ih =>
    rw [show m + 1 + n = (m + n) + 1 by omega]
    show cstp (cit m (cit n c)) = cstp (cit (m + n) c)
    rw [ih]
theorem cit_pow (n d : Nat) : cit n (2 ^ n * d) = d := by
  induction n generalizing d with
  | zero => simp [cit]
  | succ n ih =>
    rw [← cit_front]
    have e : cstp (2 ^ (n + 1) * d) = 2 ^ n * d := by
      unfold cstp
      rw [Nat.pow_succ]
      rw [if_neg (by rw [Nat.mul_comm (2 ^ n) 2, Nat.mul_assoc]; omega)]
      rw [Nat.mul_comm (2 ^ n) 2, Nat.mul_assoc]
      omega
    rw [e, ih]
theorem xor_split (c : Nat) : c = (256 * (c / 256)) ^^^ (c % 256) := by
  have h := Nat.two_pow_add_eq_or_of_lt (i := 8) (b := c % 256) (Nat.mod_lt _ (by decide)) (c / 256)
  have h2 : 256 * (c / 256) ^^^ c % 256 = 256 * (c / 256) ||| c % 256 := by
    apply Nat.eq_of_testBit_eq
    intro i
    rw [Nat.testBit_xor, Nat.testBit_or]
    have e1 : (256 * (c / 256)).testBit i = (decide (i ≥ 8) && c.testBit i) := by
      rw [show (256 : Nat) = 2 ^ 8 from rfl, Nat.testBit_two_pow_mul, Nat.testBit_div_two_pow]
      by_cases hi : i ≥ 8
      · rw [show i - 8 + 8 = i by omega]
      · simp [hi]
    have e2 : (c % 256).testBit i = (decide (i < 8) && c.testBit i) := by
      rw [show (256 : Nat) = 2 ^ 8 from rfl, Nat.testBit_mod_two_pow]
    rw [e1, e2]
    by_cases hi : i < 8
    · simp [hi, show ¬ 8 ≤ i by omega]
    · simp [hi, show 8 ≤ i by omega]
  rw [h2, ← show (256 : Nat) = 2 ^ 8 from rfl] at *
  rw [← h]
  omega
theorem cbyte_bits (c b : Nat) : cbyte c b = cit 8 (c ^^^ b) := by
  unfold cbyte
  have e : c ^^^ b = (256 * (c / 256)) ^^^ ((c % 256) ^^^ b) := by
    rw [← Nat.xor_assoc, ← xor_split]
  rw [e, cit_xor 8 (256 * (c / 256)), show (256 : Nat) * (c / 256) = 2 ^ 8 * (c / 256) from rfl, cit_pow]
theorem xor_ones (a : Nat) (h : a < 4294967296) : a ^^^ 4294967295 = 4294967295 - a := by
  have e := BitVec.toNat_not (x := BitVec.ofNat 32 a)
  rw [← BitVec.xor_allOnes, BitVec.toNat_xor, BitVec.toNat_ofNat, Nat.mod_eq_of_lt h] at e
  simpa using e
theorem off_l0 : ∀ (m k c : Nat), m ≤ 8 → c < 4294967296 → tarryref02_Off.l0 (k + m + 1) (c : Int) ((8 - m : Nat) : Int) = some (cit m c : Int)
  | 0, k, c, _, _ => by
    unfold tarryref02_Off.l0
    rw [if_neg (by omega)]
    rfl
  | m + 1, k, c, h, hc => by
    have ih := off_l0 m k (cstp c) (by omega) (cstp_lt c hc)
    rw [cit_front] at ih
    have e1 : wrap64 (((8 - (m + 1) : Nat) : Int) + 1) = ((8 - m : Nat) : Int) := by unfold wrap64; omega
    have e2 : Int.tmod (c : Int) 2 = ((c % 2 : Nat) : Int) := rfl
    have e3 : Int.tdiv (c : Int) 2 % 4294967296 = ((c / 2 : Nat) : Int) := by
      have : Int.tdiv (c : Int) 2 = ((c / 2 : Nat) : Int) := rfl
      rw [this]
      omega
    rw [show k + (m + 1) + 1 = (k + m + 1) + 1 by omega]
    unfold tarryref02_Off.l0
    rw [if_pos (by omega), e1, e2, e3]
    by_cases ho : c % 2 = 1
    · have e4 : cstp c = (c / 2) ^^^ 2197175160 := if_pos ho
      rw [if_pos (by rw [ho]; rfl)]
      have e5 : Go.bits .xor .u32 ((c / 2 : Nat) : Int) 2197175160 = ((cstp c : Nat) : Int) := by
        rw [e4]
        exact x32 (c / 2) 2197175160 (by omega) (by decide)
      rw [e5]
      exact ih
    · have e4 : cstp c = c / 2 := if_neg ho
      rw [if_neg (by omega), ← e4]
      exact ih
theorem off_f (k c : Nat) (hc : c < 4294967296) : tarryref02_Off.f (k + 9) (c : Int) = some (cit 8 c : Int) := off_l0 8 k c (by decide) hc
theorem refon_l0 (s : ByteArray) (hs : s.size ≤ 1000000) (c0 : Nat) (h0 : c0 < 4294967296) : ∀ (m : Nat), m ≤ s.size →
    tarryref02_On.l0 (m + 10) (cupto c0 s (s.size - m) : Int) s ((s.size - m : Nat) : Int) = some ((4294967295 - (cupto c0 s s.size : Int)) % 4294967296)
  | 0, _ => by
    unfold tarryref02_On.l0
    rw [if_neg (by omega)]
    rfl
  | m + 1, h => by
    have ih := refon_l0 s hs c0 h0 m (by omega)
    have e1 : wrap64 (((s.size - (m + 1) : Nat) : Int) + 1) = ((s.size - m : Nat) : Int) := by unfold wrap64; omega
    have hl := cupto_lt c0 s h0 (s.size - (m + 1))
    have hb := bn_lt s (s.size - (m + 1))
    have e2 : s.size - m = (s.size - (m + 1)) + 1 := by omega
    rw [e2] at ih e1
    rw [show m + 1 + 10 = (m + 10) + 1 by omega]
    unfold tarryref02_On.l0
    rw [if_pos (by omega), if_pos (by omega), e1, bt_bn, Int.emod_eq_of_lt (by omega) (by omega), x32 _ _ hl (by omega),
      show m + 10 = (m + 1) + 9 by omega, off_f (m + 1) _ (Nat.xor_lt_two_pow (n := 32) hl (by omega)), ← cbyte_bits]
    exact ih
theorem refon_f (c : Nat) (hc : c < 4294967296) (s : ByteArray) (hs : s.size ≤ 1000000) : tarryref02_On.f (s.size + 10) (c : Int) s = some (con c s : Int) := by
  have h0 : c ^^^ 4294967295 < 4294967296 := Nat.xor_lt_two_pow (n := 32) hc (by decide)
  have h := refon_l0 s hs (c ^^^ 4294967295) h0 s.size (Nat.le_refl _)
  have hl := cupto_lt _ s h0 s.size
  rw [Nat.sub_self] at h
  unfold tarryref02_On.f con
  rw [xor_ones _ hl]
  have e1 : (4294967295 - (c : Int)) % 4294967296 = ((c ^^^ 4294967295 : Nat) : Int) := by rw [xor_ones c hc]; omega
  rw [e1]
  refine Eq.trans h (congrArg some ?_)
  omega
theorem refof_f (s : ByteArray) (hs : s.size ≤ 1000000) : tarryref02_Of.f (s.size + 10) s = some (con 0 s : Int) := by
  unfold tarryref02_Of.f
  rw [show (0 : Int) = ((0 : Nat) : Int) from rfl, refon_f 0 (by decide) s hs]
  rfl
theorem refbytes_f (c : Nat) (hc : c < 4294967296) : tarryref02_Bytes.f 5 (c : Int) = some (strOfNums [chk_by c 0, chk_by c 1, chk_by c 2, chk_by c 3]) := by
  have e : ∀ d : Nat, d < 4294967296 → Int.tdiv (d : Int) 256 % 4294967296 = ((d / 256 : Nat) : Int) := fun d hd => by
    have : Int.tdiv (d : Int) 256 = ((d / 256 : Nat) : Int) := rfl
    rw [this]
    omega
  have e' : ∀ d : Nat, Int.tmod (d : Int) 256 % 256 = ((d % 256 : Nat) : Int) := fun d => by
    have : Int.tmod (d : Int) 256 = ((d % 256 : Nat) : Int) := rfl
    rw [this]
    omega
  unfold tarryref02_Bytes.f
  simp only [tarryref02_Bytes.l0, e', e c hc, e (c / 256) (by omega), e (c / 256 / 256) (by omega), wrap64]
  have d1 : (chk_by (c : Int) 0) = ((c % 256 : Nat) : Int) := by simp [chk_by]
  have d2 : (chk_by (c : Int) 1) = ((c / 256 % 256 : Nat) : Int) := by simp [chk_by]
  have d3 : (chk_by (c : Int) 2) = ((c / 256 / 256 % 256 : Nat) : Int) := by simp [chk_by]; omega
  have d4 : (chk_by (c : Int) 3) = ((c / 256 / 256 / 256 % 256 : Nat) : Int) := by simp [chk_by]; omega
  rw [d1, d2, d3, d4]
  simp
theorem chk_drewN {B : Nat} {w W : World} (h : Below B w W) (m : Nat) : Below B w (W.drewN m) := h.trans ⟨rfl, rfl, rfl, Nat.le_refl _, fun _ _ => rfl⟩
/-- The law's function: true for every check and text. -/
def tarrylaw02_CheckSums.f (a0 : Int) (a1 : ByteArray) : Option Bool := if 0 ≤ a0 ∧ a0 < 4294967296 then some true else none
set_option maxHeartbeats 4000000 in
set_option maxRecDepth 100000 in
theorem tarrylaw02_CheckSums.calls (a0 : Int) (a1 : ByteArray) (r : Bool) (w : World) (h : tarrylaw02_CheckSums.f a0 a1 = some r) :
    Calls Try.prog 6 #[.int .u32 a0, .string a1] w fun e w' => e = .returned (.bool r) ∧ Below w.heap.size w w' := by
  simp only [tarrylaw02_CheckSums.f, Option.ite_none_right_eq_some, Option.some.injEq] at h
  obtain ⟨⟨h0, h1⟩, rfl⟩ := h
  obtain ⟨c, rfl⟩ : ∃ c : Nat, a0 = (c : Int) := ⟨a0.toNat, by omega⟩
  have hc : c < 4294967296 := by omega
  clear h0 h1
  obtain ⟨j, hj⟩ : ∃ j : Int, mn (a1.size : Int) 400 = j := ⟨_, rfl⟩
  have m0 := mn_nonneg (a := (a1.size : Int)) (b := 400) (by omega) (by decide)
  have m1 := mn_le_left (a1.size : Int) 400
  have m2 := mn_le_right (a1.size : Int) 400
  rw [hj] at m0 m1 m2
  have hj_ : (if 400 < (a1.size : Int) then 400 else (a1.size : Int)) = j := hj
  have hz : (a1.extract 0 j.toNat).size ≤ 1000000 := by
    rw [ByteArray.size_extract]
    omega
  clear m2 hj
  have F1 := Aside0.mk (On_n c _ hc hz)
  have F2 := Aside0.mk (Of_n _ hz)
  have F3 := Aside0.mk (refon_f c hc _ hz)
  have F4 := Aside0.mk (refof_f _ hz)
  have F5 := Aside0.mk (refbytes_f c hc)
  have F6 : Aside0 (check_Bytes.f (c : Int) = some (strOfNums [chk_by c 0, chk_by c 1, chk_by c 2, chk_by c 3])) := ⟨rfl⟩
  clear hz
  replace m0 := eq_true m0
  replace m1 := eq_true m1
  generalize hv : con c (a1.extract 0 j.toNat) = v at *
  generalize hu : con 0 (a1.extract 0 j.toNat) = u at *
  clear hv hu
  generalize strOfNums [chk_by c 0, chk_by c 1, chk_by c 2, chk_by c 3] = bs at *
  have hu29 := Try.underlying29
  have hz0 : Aside0 ((Try.prog.info? 29).map (·.size) = some (chk_row 256).size) := ⟨by rw [chk_row_size]; exact chk_info⟩
  go_enter Try.func6, Try.ntmps6
  go_wp2_with (first | (go_at_call 10; refine (chk_table _).mono ?_; rintro e w1 ⟨rfl, hb⟩; have HB1 := Aside0.mk hb; clear hb) | ((with_reducible refine gate_dst (N := 5) rfl ?_); refine box_event ?hg (N := 5) ?hd (cs := chk_row 0) (t := 29) ?hr ?_; (case hd => rfl); (case hg => rfl); (case hr => exact chk_alloc _ _ _ rfl rfl); intro g hg w2 hb0 hbb; have A0 := Aside0.mk hg; have B0 := Aside0.mk hb0; have C0 := Aside0.mk hbb; clear hg hb0 hbb) | (refine wpList_store_row rfl 29 _ _ rfl g (chk_row 256) rfl rfl 29 (chk_row 0) B0.out hz0.out (by rw [chk_row_size, chk_row_size]) (chk_row_one 256) ?_))
  have HW : Aside0 ((w2.setRow g (chk_row 256)).heap[g]? = some (.cells (chk_row 256) 29 (0, 0))) := ⟨setRow_heap _ g _ _ 29 _ B0.out⟩
  have HB : Aside0 (Below w.heap.size w (w2.setRow g (chk_row 256))) := ⟨by
    have hle : w.heap.size ≤ g := by rw [A0.out]; exact HB1.out.size
    exact (HB1.out.trans (C0.out.mono HB1.out.size)).trans ⟨rfl, rfl, rfl, by simp [World.setRow], fun k hk => by
        have : g ≠ k := by omega
        simp [World.setRow, Array.getElem?_modify, this]⟩⟩
  generalize w2.setRow g (chk_row 256) = w3 at *
  go_loopw [13] (fun i W => ∃ n : Nat, n ≤ 256 ∧ i = .int .u32 n ∧ Aside0 (W.heap[g]? = some (.cells (chk_row 256) 29 (0, 0))) ∧ Aside0 (Below w.heap.size w W)) (fun i _ => 256 - (intOf i).toNat)
  case atStart => exact ⟨0, by omega, rfl, HW, HB⟩
  case round =>
    clear HW HB
    obtain ⟨n, hn, rfl, HW, HB⟩ := hrel
    by_cases hlt : n < 256
    · have hw3 := HW.out
      have hc1 := (blk_cell hw3 n).trans (chk_row_at 256 n hlt)
      rw [if_pos hlt, it_n 8 n (by omega)] at hc1
      have hi0 : (0 : Int) ≤ (n : Int) := by omega
      have hi1 : (n : Int) < 256 := by omega
      have FO := Aside0.mk (off_f 0 n (by omega))
      clear hw3
      generalize cit 8 n = q at *
      go_wp2
      go_quiet (first | (refine (tarryref02_Off.calls 9 n q _ FO.out).mono ?_; rintro e w' ⟨rfl, ⟨nd, rfl⟩⟩; (try first | exact ⟨rfl, _, World.drewN_drewN _ _ _⟩ | exact ⟨rfl, _, Eq.trans (World.drewN_drewN _ _ _) (congrArg (World.drewN _) (Nat.add_assoc _ _ _))⟩)))
      have hq : ((q : Int) != (q : Int)) = false := bne_self_eq_false _
      go_wp2
      go_roundw
      case rel => exact ⟨n + 1, by omega, by go_num, ⟨HW.out⟩, ⟨chk_drewN HB.out _⟩⟩
      case measure => simp [intOf]; omega
    · obtain rfl : n = 256 := by omega
      have hv : ((v : Int) == (v : Int)) = true := beq_self_eq_true _
      have hu : ((u : Int) == (u : Int)) = true := beq_self_eq_true _
      have hbs : (bs.toList == bs.toList) = true := beq_self_eq_true _
      have FA := Aside0.mk alive_f
      go_wp2_with (first | (go_at_call 7; refine (tarrylaw02_alive.calls true _ FA.out).mono ?_; rintro e w4 ⟨rfl, hb⟩; have n0_ := Aside0.mk (below_step HB.out hb); clear HB; have HB := n0_; clear n0_ hb) | (go_at_call 9; refine (check_Of.calls _ u _ F2.out).mono ?_; rintro e w5 ⟨rfl, hb⟩; have n0_ := Aside0.mk (below_step HB.out hb); clear HB; have HB := n0_; clear n0_ hb) | (go_at_call 12; refine (tarryref02_Of.calls _ _ u _ F4.out).mono ?_; rintro e w6 ⟨rfl, ⟨m6, rfl⟩⟩) | (go_at_call 8; refine (check_On.calls _ _ v _ F1.out).mono ?_; rintro e w7 ⟨rfl, hb⟩; have n0_ := Aside0.mk (below_step (chk_drewN HB.out _) hb); clear HB; have HB := n0_; clear n0_ hb) | (go_at_call 13; refine (tarryref02_On.calls _ _ _ v _ F3.out).mono ?_; rintro e w8 ⟨rfl, ⟨m8, rfl⟩⟩) | (go_at_call 14; refine (check_Bytes.calls _ bs _ F6.out).mono ?_; rintro e w9 ⟨rfl, hb⟩; have n0_ := Aside0.mk (below_step (chk_drewN HB.out _) hb); clear HB; have HB := n0_; clear n0_ hb) | (go_at_call 15; refine (tarryref02_Bytes.calls _ _ bs _ F5.out).mono ?_; rintro e w10 ⟨rfl, hb⟩; have n0_ := Aside0.mk (below_step HB.out hb); clear HB; have HB := n0_; clear n0_ hb))
      go_ret
      exact ⟨rfl, HB.out⟩

/-- THE ONE PURE STATEMENT of tarrylaw02_CheckSums. -/
def tarrylaw02_CheckSums.Pure : Prop := ∀ (a0 : Int) (a1 : ByteArray), (Lit.int .u32 a0).wf = true → a1.size ≤ 140737488351232 → tarrylaw02_CheckSums.f a0 a1 = some true

end Go.Proofs.Ytadmbihghbfdbaa.PCheckSums
