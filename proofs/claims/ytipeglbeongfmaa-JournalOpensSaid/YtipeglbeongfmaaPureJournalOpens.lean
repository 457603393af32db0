/- JournalOpens: JournalOpens: a new journal, that of any disk, and which may be, is as the document says, or refused, for every input; no further condition. -/
import Derived.Test.YtipeglbeongfmaaPureJournalOpensA
namespace Go.Proofs.Ytipeglbeongfmaa.Pure
open Go Go.RowKit Go.Proofs.Ytipeglbeongfmaa.PJournalOpens Go.Proofs.YtipeglbeongfmaaV
set_option linter.unusedSimpArgs false
set_option linter.unusedVariables false
theorem ref_may_tells (a : Int) : tarryref01_May.f a = some (decide (-1152921504606846976 ≤ a ∧ a ≤ 1152921504606846976)) := by
  unfold tarryref01_May.f
  split <;> simp <;> omega
theorem ref_number_l1 (kk n : Nat) : ∀ (k : Nat) (x : Int) (acc : List Int), 0 ≤ x → x < 128 * 128 ^ n → x ≤ 9223372036854775807 → acc.length + n ≤ 100 →
    tarryref01_Number.l1 kk (k + n + 1) x acc = some (strOfNums (acc ++ digs n x)) := by
  induction n with
  | zero =>
    intro k x acc h0 h1 h2 h3
    have h1' : x < 128 := by simpa using h1
    rw [tarryref01_Number.l1, if_neg (by omega), if_pos (by simp; omega), w8 h0 (by omega)]
    rfl
  | succ n ih =>
    intro k x acc h0 h1 h2 h3
    rw [show k + (n + 1) + 1 = (k + n + 1) + 1 by omega, tarryref01_Number.l1]
    by_cases h : x ≥ 128
    · have t1 : Int.tmod x 128 = x % 128 := Int.tmod_eq_emod_of_nonneg h0
      have t2 : Int.tdiv x 128 = x / 128 := Int.tdiv_eq_ediv_of_nonneg h0
      have t3 : IntKind.i64.wrap (x / 128) = x / 128 := (i64w _).trans (wrap64_id (by omega) (by omega))
      have t4 : IntKind.u8.wrap (wrap64 (128 + x % 128)) = x % 128 + 128 := by rw [wrap64_id (by clear t3; omega) (by clear t3; omega), w8 (by clear t3; omega) (by clear t3; omega)]; clear t3; omega
      have hp : (128 : Int) ^ (n + 1) = 128 ^ n * 128 := Int.pow_succ ..
      have hn := ih k (x / 128) (acc ++ [x % 128 + 128]) (by clear t3 t4; omega) (by clear t3 t4; omega) (by clear t3 t4; omega) (by clear t3 t4; simp; omega)
      have hx : x > 127 := by clear t3 t4; omega
      rw [if_pos hx, if_pos (by clear t3 t4; simp; omega), t1, t2, t3, t4, hn, digs, if_pos h, List.append_assoc]
      rfl
    · rw [if_neg (by omega), if_pos (by simp; omega), digs, if_neg h, w8 h0 (by omega)]
theorem ref_number_l3 (kk n : Nat) : ∀ (k : Nat) (x : Int) (acc : List Int), 0 ≤ x → x < 128 * 128 ^ n → x ≤ 9223372036854775807 → acc.length + n ≤ 100 →
    tarryref01_Number.l3 kk (k + n + 1) x acc = some (strOfNums (acc ++ digs n x)) := by
  induction n with
  | zero =>
    intro k x acc h0 h1 h2 h3
    have h1' : x < 128 := by simpa using h1
    rw [tarryref01_Number.l3, if_neg (by omega), if_pos (by simp; omega), w8 h0 (by omega)]
    rfl
  | succ n ih =>
    intro k x acc h0 h1 h2 h3
    rw [show k + (n + 1) + 1 = (k + n + 1) + 1 by omega, tarryref01_Number.l3]
    by_cases h : x ≥ 128
    · have t1 : Int.tmod x 128 = x % 128 := Int.tmod_eq_emod_of_nonneg h0
      have t2 : Int.tdiv x 128 = x / 128 := Int.tdiv_eq_ediv_of_nonneg h0
      have t3 : IntKind.i64.wrap (x / 128) = x / 128 := (i64w _).trans (wrap64_id (by omega) (by omega))
      have t4 : IntKind.u8.wrap (wrap64 (128 + x % 128)) = x % 128 + 128 := by rw [wrap64_id (by clear t3; omega) (by clear t3; omega), w8 (by clear t3; omega) (by clear t3; omega)]; clear t3; omega
      have hp : (128 : Int) ^ (n + 1) = 128 ^ n * 128 := Int.pow_succ ..
      have hn := ih k (x / 128) (acc ++ [x % 128 + 128]) (by clear t3 t4; omega) (by clear t3 t4; omega) (by clear t3 t4; omega) (by clear t3 t4; simp; omega)
      have hx : x > 127 := by clear t3 t4; omega
      rw [if_pos hx, if_pos (by clear t3 t4; simp; omega), t1, t2, t3, t4, hn, digs, if_pos h, List.append_assoc]
      rfl
    · rw [if_neg (by omega), if_pos (by simp; omega), digs, if_neg h, w8 h0 (by omega)]
theorem ref_number_tells (k : Nat) (hk : 11 ≤ k) (a : Int) (h : -1152921504606846976 ≤ a ∧ a ≤ 1152921504606846976) : tarryref01_Number.f k a = some (strOfNums (digs 8 (zig a))) := by
  obtain ⟨k, rfl⟩ : ∃ q, k = q + 11 := ⟨k - 11, by omega⟩
  have hz : 0 ≤ zig a ∧ zig a ≤ 2305843009213693952 := by unfold zig; split <;> omega
  unfold tarryref01_Number.f
  by_cases h0 : a ≥ 0
  · have e : wrap64 (2 * a) = zig a := by rw [wrap64_id (by omega) (by omega)]; unfold zig; rw [if_neg (by omega)]
    rw [if_pos h0, e]
    exact ref_number_l1 (k + 11) 8 (k + 2) (zig a) [] hz.1 (by clear e; omega) (by clear e; omega) (by simp)
  · have e1 : wrap64 (0 - a) = 0 - a := wrap64_id (by omega) (by omega)
    have e2 : wrap64 (2 * (0 - a)) = 2 * (0 - a) := wrap64_id (by clear e1; omega) (by clear e1; omega)
    have e3 : wrap64 (2 * (0 - a) - 1) = zig a := by clear e1 e2; rw [wrap64_id (by omega) (by omega)]; unfold zig; rw [if_pos (by omega)]; omega
    rw [if_neg h0, e1, e2, e3]
    exact ref_number_l3 (k + 11) 8 (k + 2) (zig a) [] hz.1 (by clear e1 e2 e3; omega) (by clear e1 e2 e3; omega) (by simp)
theorem ref_j215 (k : Nat) (s : ByteArray) (i : Nat) (n : Int) (hi : i < s.size) (h9 : i ≤ 8) : tarryref01_ReadNumber.j215 k s (i : Int) n
    = some (if (bt s i = 0 ∧ 0 < i) ∨ ¬ (-1152921504606846976 ≤ n ∧ n ≤ 1152921504606846976) then (0, ⟨#[]⟩, 5) else (n, s.extract (i + 1) s.size, 0)) := by
  have h0 : (0 : Int) ≤ (i : Int) := by omega
  have h1 : (i : Int) < (s.size : Int) := by omega
  have e : wrap64 ((i : Int) + 1) = ((i + 1 : Nat) : Int) := by rw [wrap64_id (by omega) (by omega)]; rfl
  unfold tarryref01_ReadNumber.j215
  refine (if_pos h0).trans ((if_pos h1).trans ?_)
  simp only [ref_may_tells, Option.bind_some, e, Int.toNat_natCast, decide_eq_true_eq]
  have p1 : (0 : Int) ≤ ((i + 1 : Nat) : Int) := by omega
  have p2 : ((i + 1 : Nat) : Int) ≤ (s.size : Int) := by omega
  simp only [if_pos p1, if_pos p2]
  by_cases h1 : bt s i = 0 <;> by_cases h2 : 0 < i <;> by_cases h3 : -1152921504606846976 ≤ n ∧ n ≤ 1152921504606846976 <;> simp [h1, h2, h3]
theorem ref_l214 (kk : Nat) (s : ByteArray) (last : Nat) (hl : last < s.size) (h9 : last ≤ 8) (m : Nat) : ∀ (k : Nat) (y : Int), m ≤ last + 1 → 0 ≤ y → y * 128 ^ m + rdv s m = rdv s (last + 1) →
    tarryref01_ReadNumber.l214 kk s last (k + m + 1) y ((m : Int) - 1) = some (rdFin s last) := by
  induction m with
  | zero =>
    intro k y hm hy he
    have e : y = rdv s (last + 1) := by simpa [rdv] using he
    have hv := rdv_small s (last + 1) (by omega)
    have hneg : ¬ (((0 : Nat) : Int) - 1 ≥ 0) := by omega
    rw [tarryref01_ReadNumber.l214]
    refine (if_neg hneg).trans ?_
    rw [e]
    unfold tarryref01_ReadNumber.j213 rdFin
    by_cases ho : Int.tmod (rdv s (last + 1)) 2 = 1
    · refine (if_pos ho).trans ?_
      rw [fin_odd _ hv.1 hv.2 ho]
      exact ref_j215 kk s last _ hl h9
    · refine (if_neg ho).trans ?_
      rw [fin_even _ hv.1 hv.2 ho]
      exact ref_j215 kk s last _ hl h9
  | succ m ih =>
    intro k y hm hy he
    have hv := rdv_small s (last + 1) (by omega)
    have hb := bt_range s m
    have hr := rdv_range s m
    have hp : (128 : Int) ^ (m + 1) = 128 * 128 ^ m := by rw [Int.pow_succ, Int.mul_comm]
    have h0 : (1 : Int) ≤ 128 ^ m := Int.pow_pos (by decide)
    have hrs : rdv s (m + 1) = rdv s m + bt s m % 128 * 128 ^ m := rfl
    have he2 : (128 * y + bt s m % 128) * 128 ^ m + rdv s m = rdv s (last + 1) := by
      rw [← he, hp, hrs, Int.add_mul]
      have : 128 * y * 128 ^ m = y * (128 * 128 ^ m) := by rw [Int.mul_comm 128 y, Int.mul_assoc]
      omega
    have hz : 128 * y + bt s m % 128 ≤ (128 * y + bt s m % 128) * 128 ^ m := by
      have := Int.mul_le_mul_of_nonneg_left h0 (show 0 ≤ 128 * y + bt s m % 128 by omega)
      omega
    have hi : ((m + 1 : Nat) : Int) - 1 = (m : Int) := by omega
    have c1 : (m : Int) ≥ 0 := by omega
    have c2 : 0 ≤ (m : Int) := by omega
    have c3 : (m : Int) < (s.size : Int) := by omega
    have w1 : Int.tmod (bt s m) 128 = bt s m % 128 := Int.tmod_eq_emod_of_nonneg hb.1
    have b1 : -9223372036854775808 ≤ 128 * y ∧ 128 * y ≤ 9223372036854775807 := by omega
    have b2 : -9223372036854775808 ≤ bt s m % 128 ∧ bt s m % 128 ≤ 9223372036854775807 := by omega
    have b3 : -9223372036854775808 ≤ 128 * y + bt s m % 128 ∧ 128 * y + bt s m % 128 ≤ 9223372036854775807 := by omega
    have b4 : -9223372036854775808 ≤ (m : Int) - 1 ∧ (m : Int) - 1 ≤ 9223372036854775807 := by omega
    have w2 := wrap64_id b1.1 b1.2
    have w3 := wrap64_id b2.1 b2.2
    have w4 := wrap64_id b3.1 b3.2
    have w5 := wrap64_id b4.1 b4.2
    have hn := ih k (128 * y + bt s m % 128) (by omega) (by clear w2 w3 w4 w5; omega) he2
    rw [show k + (m + 1) + 1 = (k + m + 1) + 1 by omega, hi, tarryref01_ReadNumber.l214]
    refine (if_pos c1).trans ((if_pos c2).trans ((if_pos c3).trans ?_))
    rw [w1, w2, w3, w4, w5]
    exact hn
theorem ref_j208 (s : ByteArray) (last : Nat) (hl : last < s.size) (h9 : last ≤ 8) (k : Nat) (hk : 20 ≤ k) : tarryref01_ReadNumber.j208 k s last = some (rdFin s last) := by
  have h := ref_l214 k s last hl h9 (last + 1) (k - (last + 2)) 0 (Nat.le_refl _) (Int.le_refl 0) (by rw [Int.zero_mul, Int.zero_add])
  have e : ((last + 1 : Nat) : Int) - 1 = (last : Int) := by omega
  have c : ¬ ((last : Int) < 0) := by omega
  rw [e, show k - (last + 2) + (last + 1) + 1 = k by omega] at h
  rw [tarryref01_ReadNumber.j208, if_neg c]
  exact h
theorem ref_found (k : Nat) (hk : 20 ≤ k) (s : ByteArray) (last : Nat) (hl : last < s.size) (h9 : last ≤ 8) (f : Nat) : ∀ (m i : Nat), i + f = 9 → f < m →
    tarryref01_ReadNumber.l185 k s m last i = some (rdFin s last) := by
  have c : ¬ ((last : Int) < 0) := by omega
  have stop : tarryref01_ReadNumber.j184 k s last = some (rdFin s last) := by
    rw [tarryref01_ReadNumber.j184, if_neg c]
    exact ref_j208 s last hl h9 k hk
  induction f with
  | zero =>
    intro m i hi hm
    obtain ⟨m, rfl⟩ : ∃ q, m = q + 1 := ⟨m - 1, by omega⟩
    have e : ¬ ((i : Int) < 9) := by omega
    rw [tarryref01_ReadNumber.l185, if_neg e, stop]
    split <;> rfl
  | succ f ih =>
    intro m i hi hm
    obtain ⟨m, rfl⟩ : ∃ q, m = q + 1 := ⟨m - 1, by omega⟩
    have e : (i : Int) < 9 := by omega
    have hn := ih m (i + 1) (by omega) (by omega)
    have w : wrap64 ((i : Int) + 1) = ((i + 1 : Nat) : Int) := (wrap64_id (by omega) (by omega)).trans (by rfl)
    rw [tarryref01_ReadNumber.l185, if_pos e, if_neg c, w, hn, stop]
    split <;> rfl
theorem ref_loop (k : Nat) (hk : 20 ≤ k) (s : ByteArray) (hs : s.size ≤ 140737488351232) (f : Nat) : ∀ (m i : Nat), i + f = 9 → f < m →
    tarryref01_ReadNumber.l185 k s m (-1) i = some (rdGo s f i) := by
  have stop : tarryref01_ReadNumber.j184 k s (-1) = some (if s.size ≥ 9 then (0, ⟨#[]⟩, 3) else (0, ⟨#[]⟩, 4)) := by
    rw [tarryref01_ReadNumber.j184, if_pos (by decide)]
    by_cases h : s.size ≥ 9
    · rw [if_pos (by omega), if_pos h]
    · rw [if_neg (by omega), if_neg h, tarryref01_ReadNumber.j208, if_pos (by decide)]
  induction f with
  | zero =>
    intro m i hi hm
    obtain ⟨m, rfl⟩ : ∃ q, m = q + 1 := ⟨m - 1, by omega⟩
    have e : ¬ ((i : Int) < 9) := by omega
    rw [tarryref01_ReadNumber.l185, if_neg e, rdGo, stop]
    split <;> rfl
  | succ f ih =>
    intro m i hi hm
    obtain ⟨m, rfl⟩ : ∃ q, m = q + 1 := ⟨m - 1, by omega⟩
    have e : (i : Int) < 9 := by omega
    have hn := ih m (i + 1) (by omega) (by omega)
    rw [tarryref01_ReadNumber.l185, rdGo]
    by_cases h : i < s.size
    · have h1 : (i : Int) < (s.size : Int) := by omega
      have h0 : 0 ≤ (i : Int) := by omega
      have hf := ref_found k hk s i h (by omega) f m (i + 1) (by omega) (by omega)
      have w : wrap64 ((i : Int) + 1) = ((i + 1 : Nat) : Int) := (wrap64_id (by omega) (by omega)).trans (by rfl)
      rw [if_pos h1, if_pos h, if_pos e, if_pos (by decide), if_pos h0, if_pos h1, w]
      by_cases hc : bt s i < 128
      · rw [if_pos hc, if_neg (by clear w; omega)]
        exact hf
      · rw [if_neg hc, if_pos (by clear w; omega)]
        exact hn
    · have h1 : ¬ ((i : Int) < (s.size : Int)) := by omega
      rw [if_neg h1, if_neg h]
      exact stop
theorem ref_read_tells (k : Nat) (hk : 20 ≤ k) (s : ByteArray) (hs : s.size ≤ 140737488351232) : tarryref01_ReadNumber.f k s = some (rdGo s 9 0) :=
  ref_loop k hk s hs 9 k 0 rfl (by omega)
theorem xor_ones (a : Nat) (h : a < 4294967296) : a ^^^ 4294967295 = 4294967295 - a := by
  have e := BitVec.toNat_not (x := BitVec.ofNat 32 a)
  rw [← BitVec.xor_allOnes, BitVec.toNat_xor, BitVec.toNat_ofNat, Nat.mod_eq_of_lt h] at e
  simpa using e
/-! ### the check, as the document says -/
theorem off_l1 (kk : Nat) : ∀ (m k c : Nat), m ≤ 8 → c < 4294967296 → tarryref02_Off.l1 kk (k + m + 1) (c : Int) ((8 - m : Nat) : Int) = some (cit m c : Int)
  | 0, k, c, _, _ => by
    rw [tarryref02_Off.l1, if_neg (by omega)]
    rfl
  | m + 1, k, c, h, hc => by
    have ih := off_l1 kk m k (cstp c) (by omega) (cstp_lt c hc)
    rw [cit_front] at ih
    have e1 : wrap64 (((8 - (m + 1) : Nat) : Int) + 1) = ((8 - m : Nat) : Int) := by unfold wrap64; omega
    have e2 : Int.tmod (c : Int) 2 = ((c % 2 : Nat) : Int) := rfl
    have e3 : IntKind.u32.wrap (Int.tdiv (c : Int) 2) = ((c / 2 : Nat) : Int) := by
      have : Int.tdiv (c : Int) 2 = ((c / 2 : Nat) : Int) := rfl
      rw [this, w32 (by omega) (by omega)]
    rw [show k + (m + 1) + 1 = (k + m + 1) + 1 by omega, tarryref02_Off.l1, if_pos (by omega), e1, e2, e3]
    by_cases ho : c % 2 = 1
    · have e4 : cstp c = (c / 2) ^^^ 2197175160 := if_pos ho
      rw [if_pos (by rw [ho]; rfl)]
      have e5 : Go.bits .xor .u32 ((c / 2 : Nat) : Int) 2197175160 = ((cstp c : Nat) : Int) := by
        rw [e4]
        exact x32 (c / 2) 2197175160 (by omega) (by decide)
      rw [e5]
      exact ih
    · have e4 : cstp c = c / 2 := if_neg ho
      rw [if_neg (by omega), ← e4]
      exact ih
theorem off_f (k c : Nat) (hk : 9 ≤ k) (hc : c < 4294967296) : tarryref02_Off.f k (c : Int) = some (cit 8 c : Int) := by
  obtain ⟨k, rfl⟩ : ∃ q, k = q + 9 := ⟨k - 9, by omega⟩
  exact off_l1 _ 8 k c (by decide) hc
theorem refon_l1 (k : Nat) (hk : 9 ≤ k) (s : ByteArray) (hs : s.size ≤ 1000000) (c0 : Nat) (h0 : c0 < 4294967296) : ∀ (d i m : Nat), i + d = s.size → d < m →
    tarryref02_On.l1 k s m (cupto c0 s i : Int) (i : Int) = some (((cupto c0 s s.size) ^^^ 4294967295 : Nat) : Int)
  | 0, i, m, hi, hm => by
    obtain ⟨m, rfl⟩ : ∃ q, m = q + 1 := ⟨m - 1, by omega⟩
    obtain rfl : i = s.size := by omega
    have hl := cupto_lt _ s h0 s.size
    rw [tarryref02_On.l1, if_neg (by omega), w32 (by omega) (by omega), xor_ones _ hl]
    congr 1
    omega
  | d + 1, i, m, hi, hm => by
    obtain ⟨m, rfl⟩ : ∃ q, m = q + 1 := ⟨m - 1, by omega⟩
    have ih := refon_l1 k hk s hs c0 h0 d (i + 1) m (by omega) (by omega)
    have e1 : wrap64 ((i : Int) + 1) = ((i + 1 : Nat) : Int) := by unfold wrap64; omega
    have hl := cupto_lt c0 s h0 i
    have hb := bn_lt s i
    rw [tarryref02_On.l1, if_pos (by omega), if_pos (by omega), if_pos (by omega), e1, bt_bn, w32 (by omega) (by omega), x32 _ _ hl (by omega), off_f k _ hk (Nat.xor_lt_two_pow (n := 32) hl (by omega)), ← cbyte_bits, Option.bind_some]
    exact ih
theorem refof_tells (k : Nat) (s : ByteArray) (hs : s.size ≤ 1000000) (hk : 9 ≤ k) (hk2 : s.size < k) : tarryref02_Of.f k s = some (con 0 s : Int) := by
  have h := refon_l1 k hk s hs 4294967295 (by decide) s.size 0 k (by omega) hk2
  unfold tarryref02_Of.f tarryref02_On.f con
  rw [show IntKind.u32.wrap (4294967295 - 0) = ((4294967295 : Nat) : Int) from w32 (by decide) (by decide)]
  have h2 : tarryref02_On.l1 k s k ((4294967295 : Nat) : Int) 0 = some (((cupto 4294967295 s s.size) ^^^ 4294967295 : Nat) : Int) := h
  rw [h2, Nat.zero_xor]
  rfl
theorem refbytes_tells (k c : Nat) (hk : 5 ≤ k) (hc : c < 4294967296) : tarryref02_Bytes.f k (c : Int) = some (strOfNums (b4 c)) := by
  obtain ⟨k, rfl⟩ : ∃ q, k = q + 5 := ⟨k - 5, by omega⟩
  have e : ∀ d : Nat, d < 4294967296 → IntKind.u32.wrap (Int.tdiv (d : Int) 256) = ((d / 256 : Nat) : Int) := fun d hd => by
    have : Int.tdiv (d : Int) 256 = ((d / 256 : Nat) : Int) := rfl
    rw [this, w32 (by omega) (by omega)]
  have e' : ∀ d : Nat, IntKind.u8.wrap (Int.tmod (d : Int) 256) = ((d % 256 : Nat) : Int) := fun d => by
    have : Int.tmod (d : Int) 256 = ((d % 256 : Nat) : Int) := rfl
    rw [this, IntKind.wrap_u8]
    omega
  have s0 : wrap64 (0 + 1) = 1 := by decide +kernel
  have s1 : wrap64 (1 + 1) = 2 := by decide +kernel
  have s2 : wrap64 (2 + 1) = 3 := by decide +kernel
  have s3 : wrap64 (3 + 1) = 4 := by decide +kernel
  unfold tarryref02_Bytes.f
  rw [tarryref02_Bytes.l1, if_pos (by decide), if_pos (by simp), e', e c hc, s0]
  rw [tarryref02_Bytes.l1, if_pos (by decide), if_pos (by simp), e', e (c / 256) (by omega), s1]
  rw [tarryref02_Bytes.l1, if_pos (by decide), if_pos (by simp), e', e (c / 256 / 256) (by omega), s2]
  rw [tarryref02_Bytes.l1, if_pos (by decide), if_pos (by simp), e', e (c / 256 / 256 / 256) (by omega), s3]
  rw [tarryref02_Bytes.l1, if_neg (by decide)]
  simp [b4, Nat.div_div_eq_div_mul]

theorem rframe_tells (k : Nat) (hk : 5000 ≤ k) (d : ByteArray) (hs : d.size ≤ 4096) : tarryref04_Frame.f k d = some (frm d) := by
  have hm := may_small (n := d.size) (by omega)
  have h9 := numS_size hm
  have hc := con_lt 0 d (by decide)
  unfold tarryref04_Frame.f
  rw [ref_number_tells k (by omega) _ hm, Option.bind_some]
  show (if (numS (d.size : Int)).size + d.size ≤ 9223372036854775807 then _ else none) = _
  rw [if_pos (by omega), refof_tells k d (by omega) (by omega) (by omega), Option.bind_some, refbytes_tells k _ (by omega) hc, Option.bind_some]
  show (if (numS (d.size : Int) ++ d).size + (B4 d).size ≤ 9223372036854775807 then some (frm d) else none) = _
  rw [if_pos (by rw [app_size, B4_size]; omega)]
theorem rscan_l1 (k : Nat) (hk : 5000 ≤ k) {s t : ByteArray} {l : List ByteArray} (h : Scans s l t) : ∀ (m : Nat) (out : List ByteArray), s.size < m → s.size ≤ 1000000 → out.length + s.size ≤ 1000000 →
    tarryref04_Scan.l1 k m s out = some (out ++ l) := by
  have common : ∀ (s : ByteArray) (m : Nat) (out : List ByteArray), s.size ≤ 1000000 → out.length + s.size ≤ 1000000 → tarryref04_Scan.l1 k (m + 1) s out = (match fStep s with
      | none => some out
      | some (d, r) => tarryref04_Scan.l1 k m r (out ++ [d])) := by
    intro s m out hs ho
    by_cases hs0 : s.size = 0
    · have : s = ⟨#[]⟩ := size_zero hs0
      subst this
      have h0 : fStep (⟨#[]⟩ : ByteArray) = none := by decide +kernel
      rw [tarryref04_Scan.l1, if_neg (by simp [hs0]), h0]
    unfold fStep
    rw [tarryref04_Scan.l1, if_pos (by omega), ref_read_tells k (by omega) s (by omega), Option.bind_some]
    have hinv := fun n r (h : rdGo s 9 0 = (n, r, 0)) => read_inv h
    generalize rdGo s 9 0 = q at *
    obtain ⟨n, r, e⟩ := q
    dsimp only
    by_cases c1 : e = 0
    · subst c1
      obtain ⟨hm, hsr⟩ := hinv n r rfl
      have hr : r.size ≤ s.size := by rw [hsr, app_size]; omega
      rw [if_pos rfl]
      by_cases c2 : n < 0
      · rw [if_pos c2, if_neg (fun h => by omega)]
      · rw [if_neg c2]
        by_cases c3 : n > 4096
        · rw [if_pos c3, if_neg (fun h => by omega)]
        · have hw : wrap64 (n + 4) = n + 4 := by unfold wrap64; omega
          rw [if_neg c3, hw]
          by_cases c4 : n + 4 > (r.size : Int)
          · rw [if_pos c4, if_neg (fun h => by omega)]
          · have hx : (r.extract 0 n.toNat).size ≤ 4096 := by rw [ext_size _ _ _ (by omega)]; omega
            have hc := con_lt 0 (r.extract 0 n.toNat) (by decide)
            rw [if_neg c4, if_pos (by omega), if_pos (by omega), if_pos (by omega), if_pos (by omega), if_pos (by omega), refof_tells k _ (by omega) (by omega) (by omega), Option.bind_some, refbytes_tells k _ (by omega) hc, Option.bind_some, beq_is]
            by_cases c5 : r.extract n.toNat (n + 4).toNat = strOfNums (b4 (con 0 (r.extract 0 n.toNat)))
            · rw [if_pos (decide_eq_true c5), if_pos (by simp; omega), if_pos ⟨rfl, by omega, by omega, by omega, c5⟩]
            · rw [if_neg (by simpa using c5), if_neg (fun h => c5 h.2.2.2.2)]
    · rw [if_neg c1, if_neg (fun h => c1 h.1)]
  induction h with
  | nil h =>
    intro m out hm _ _
    obtain ⟨m, rfl⟩ : ∃ q, m = q + 1 := ⟨m - 1, by omega⟩
    rw [common _ _ _ (by omega) (by omega), h, List.append_nil]
  | cons h k ih =>
    intro m out hm h1 h2
    obtain ⟨m, rfl⟩ : ∃ q, m = q + 1 := ⟨m - 1, by omega⟩
    have hl := step_less h
    rw [common _ _ _ (by omega) (by omega), h]
    dsimp only
    rw [ih m _ (by omega) (by omega) (by simp; omega), List.append_assoc]
    rfl
theorem rscan_tells {s t : ByteArray} {l : List ByteArray} (h : Scans s l t) (k : Nat) (hk : 5000 ≤ k) (hs : s.size < k) (hs2 : s.size ≤ 1000000) : tarryref04_Scan.f k s = some l := by
  unfold tarryref04_Scan.f
  exact rscan_l1 k hk h k [] hs hs2 (by simp; omega)
theorem rwhole_tells (k : Nat) (hk : 5000 ≤ k) (l : List ByteArray) (hl : ∀ d ∈ l, d.size ≤ 4096) (h1 : l.length < k) (h2 : (whole l).size ≤ 1000000) (h3 : l.length < 1000000) : tarryref04_Whole.f k l = some (whole l) := by
  have key : ∀ (xs : List ByteArray) (s : ByteArray), (∀ d ∈ xs, d.size ≤ 4096) → s.size + (whole xs).size ≤ 1000000 → tarryref04_Whole.r1 k l xs s = some (s ++ whole xs) := by
    intro xs
    induction xs with
    | nil => intro s _ _; rw [tarryref04_Whole.r1, whole, app_nil]
    | cons x xs ih =>
      intro s hx hs
      rw [whole, app_size] at hs
      rw [tarryref04_Whole.r1, rframe_tells k hk x (hx x (by simp)), Option.bind_some, if_pos (by omega), ih _ (fun d hd => hx d (by simp [hd])) (by rw [app_size]; omega), whole, app_assoc]
  have := tarryref04_Whole.r1_eq k l (by omega) k 0 ⟨#[]⟩ (by omega) (by omega)
  rw [show ((0 : Nat) : Int) = 0 from rfl, List.drop_zero] at this
  unfold tarryref04_Whole.f
  rw [this, key l _ hl (by rw [show (⟨#[]⟩ : ByteArray).size = 0 from rfl]; omega), nil_app]
theorem like_self (k : Nat) (ss : List ByteArray) (ws : List S55) (h1 : ss.length < k) (h2 : ws.length < k) (hk : k ≤ 1000000) : tarryref03_Like.f k ss ws ss ws = some true := by
  have k5 : ∀ (xs : List S55) (i : Nat), ws.drop i = xs → tarryref03_Like.r5 k ws ws xs i = some true := by
    intro xs
    induction xs with
    | nil => intro i _; rfl
    | cons x xs ih =>
      intro i hi
      obtain ⟨g1, g2, g3⟩ := drop_cons_is hi
      rw [tarryref03_Like.r5, Int.toNat_natCast, g2, Option.bind_some, beq_is, if_pos (by simp), ih (i + 1) g3]
  have k1 : ∀ (xs : List ByteArray) (i : Nat), ss.drop i = xs → tarryref03_Like.r1 k ss ws ss ws xs i = some true := by
    intro xs
    induction xs with
    | nil => intro i _; exact k5 ws 0 rfl
    | cons x xs ih =>
      intro i hi
      obtain ⟨g1, g2, g3⟩ := drop_cons_is hi
      rw [tarryref03_Like.r1, Int.toNat_natCast, g2, Option.bind_some, beq_is, if_pos (decide_eq_true rfl), ih (i + 1) g3]
  have e := tarryref03_Like.r1_eq k ss ws ss ws ⟨h2, by omega⟩ (by omega) k 0 (by omega) (by omega)
  rw [show ((0 : Nat) : Int) = 0 from rfl, List.drop_zero] at e
  unfold tarryref03_Like.f
  rw [if_pos rfl, if_pos rfl, e, k1 ss 0 rfl]

theorem rright_tells (k : Nat) (ss : List ByteArray) (ws : List S55) (h1 : ss.length < k) (h2 : ws.length < k) (hk : k ≤ 1000000) : tarryref03_Right.f k ss ws = some (rightB ss ws) := by
  have k5 : ∀ xs : List S55, tarryref03_Right.r5 k ss ws xs = some (decide (1 ≤ ss.length ∧ ss.length ≤ 512 ∧ ws.length ≤ 64) && xs.all (wB ss.length)) := by
    intro xs
    induction xs with
    | nil =>
      rw [tarryref03_Right.r5]
      by_cases c1 : (ss.length : Int) > 0
      · rw [if_pos c1]
        by_cases c2 : (ss.length : Int) ≤ 512
        · rw [if_pos c2, List.all_nil, Bool.and_true]
          congr 1
          exact decide_eq_decide.2 (by omega)
        · rw [if_neg c2, decide_eq_false (by omega)]; rfl
      · rw [if_neg c1, decide_eq_false (by omega)]; rfl
    | cons x xs ih =>
      rw [tarryref03_Right.r5, List.all_cons]
      by_cases c1 : x.f0 < 0
      · rw [if_pos c1, show wB ss.length x = false from decide_eq_false (by omega), Bool.false_and, Bool.and_false]
      · rw [if_neg c1]
        by_cases c2 : x.f0 ≥ (ss.length : Int)
        · rw [if_pos c2, show wB ss.length x = false from decide_eq_false (by omega), Bool.false_and, Bool.and_false]
        · rw [if_neg c2]
          by_cases c3 : (x.f1.size : Int) = 64
          · rw [if_pos c3, ih, show wB ss.length x = true from decide_eq_true (by omega), Bool.true_and]
          · rw [if_neg c3, show wB ss.length x = false from decide_eq_false (by omega), Bool.false_and, Bool.and_false]
  have k1 : ∀ xs : List ByteArray, tarryref03_Right.r1 k ss ws xs = some (decide (1 ≤ ss.length ∧ ss.length ≤ 512 ∧ ws.length ≤ 64) && (xs.all sB && ws.all (wB ss.length))) := by
    intro xs
    induction xs with
    | nil => rw [tarryref03_Right.r1, k5, List.all_nil, Bool.true_and]
    | cons x xs ih =>
      rw [tarryref03_Right.r1, List.all_cons]
      by_cases c3 : (x.size : Int) = 64
      · rw [if_pos c3, ih, show sB x = true from decide_eq_true (by omega), Bool.true_and]
      · rw [if_neg c3, show sB x = false from decide_eq_false (by omega), Bool.false_and, Bool.false_and, Bool.and_false]
  have e := tarryref03_Right.r1_eq k ss ws ⟨h2, by omega⟩ (by omega) k 0 (by omega) (by omega)
  rw [show ((0 : Nat) : Int) = 0 from rfl, List.drop_zero] at e
  unfold tarryref03_Right.f
  rw [e, k1]
  rfl
theorem rget_tells (k : Nat) (ss : List ByteArray) (ws : List S55) (a : Int) (h0 : 0 ≤ a) (h1 : a < (ss.length : Int)) (h2 : ws.length < k) (hk : k ≤ 1000000) : tarryref03_Get.f k ss ws a = some (getF a ws (ss.getD a.toNat ⟨#[]⟩)) := by
  have key : ∀ (xs : List S55) (s : ByteArray), tarryref03_Get.r1 k a ws xs s = some (getF a xs s) := by
    intro xs
    induction xs with
    | nil => intro s; rfl
    | cons x xs ih =>
      intro s
      rw [tarryref03_Get.r1, ih, ih]
      show _ = some (List.foldl _ _ _)
      rw [List.foldl_cons]
      split <;> rfl
  have hx : ss[a.toNat]? = some ss[a.toNat] := List.getElem?_eq_getElem (by omega)
  have e := tarryref03_Get.r1_eq k a ws (by omega) k 0 ss[a.toNat] (by omega) (by omega)
  rw [show ((0 : Nat) : Int) = 0 from rfl, List.drop_zero] at e
  unfold tarryref03_Get.f
  rw [if_pos h0, hx, Option.bind_some, e, key, List.getD_eq_getElem?_getD, hx]
  rfl
/-! ### the document's answer: heads -/
theorem rroom_tells {n : Nat} (h : 2 ≤ n) (h2 : n ≤ 1000) : tarryref05_Room.f (n : Int) = some ((room n : Nat) : Int) := by
  unfold tarryref05_Room.f room
  rw [half_is h h2]
  congr 1
  rw [Int.natCast_mul]
  exact wrap64_id (by omega) (by omega)
def lowL : Nat → Nat → List Int
  | 0, _ => []
  | d + 1, n => ((n % 256 : Nat) : Int) :: lowL d (n / 256)
theorem lowL_len : ∀ d n, (lowL d n).length = d
  | 0, _ => rfl
  | d + 1, n => by rw [lowL, List.length_cons, lowL_len]
theorem lowL_ok : ∀ d n, okB (lowL d n)
  | 0, _ => fun x hx => absurd hx (List.not_mem_nil)
  | d + 1, n => fun x hx => by
    rw [lowL] at hx
    rcases List.mem_cons.1 hx with rfl | hx
    · omega
    · exact lowL_ok d (n / 256) x hx
theorem u8n (n : Nat) : IntKind.u8.wrap ((n : Int).tmod 256) = ((n % 256 : Nat) : Int) := by
  rw [IntKind.wrap_u8, Int.tmod_eq_emod_of_nonneg (Int.natCast_nonneg _)]
  omega
theorem low_l1 (k m : Nat) (hm : m ≤ 8) : ∀ (d f n i : Nat) (acc : List Int), i + d = m → d < f → acc.length = i → n < 9223372036854775808 → tarryref05_low.l1 k (m : Int) f (n : Int) acc (i : Int) = some (strOfNums (acc ++ lowL d n))
  | 0, f, n, i, acc, hi, hf, ha, hn => by
    obtain ⟨f, rfl⟩ : ∃ q, f = q + 1 := ⟨f - 1, by omega⟩
    rw [tarryref05_low.l1, if_neg (by omega), lowL, List.append_nil]
  | d + 1, f, n, i, acc, hi, hf, ha, hn => by
    obtain ⟨f, rfl⟩ : ∃ q, f = q + 1 := ⟨f - 1, by omega⟩
    have c0 : (acc.length + ([((n % 256 : Nat) : Int)] : List Int).length) * 1 ≤ 140737488355328 := by rw [List.length_singleton]; omega
    have ih := low_l1 k m hm d f (n / 256) (i + 1) (acc ++ [((n % 256 : Nat) : Int)]) (by omega) (by omega) (by rw [List.length_append, List.length_singleton, ha]) (by omega)
    have c1 : (i : Int) < (m : Int) := by omega
    have e1 : wrap64 ((i : Int) + 1) = ((i + 1 : Nat) : Int) := (wrap64_id (by omega) (by omega)).trans (by rfl)
    have e2 : IntKind.i64.wrap ((n : Int).tdiv 256) = ((n / 256 : Nat) : Int) := by
      clear e1 ih
      rw [i64w, Int.tdiv_eq_ediv_of_nonneg (Int.natCast_nonneg _)]
      exact (wrap64_id (by omega) (by omega)).trans (by omega)
    rw [tarryref05_low.l1, if_pos c1, u8n, if_pos c0, e2, e1, ih, List.append_assoc, lowL]
    rfl
theorem low_tells (k m n : Nat) (hk : 20 ≤ k) (hm : m ≤ 8) (hn : n < 9223372036854775808) : tarryref05_low.f k (n : Int) (m : Int) = some (strOfNums (lowL m n)) := by
  unfold tarryref05_low.f
  exact low_l1 k m hm m k n 0 [] (by omega) (by omega) rfl hn
theorem low_size (m n : Nat) : (strOfNums (lowL m n)).size = m := by rw [num_size, lowL_len]
theorem zero1 : (⟨#[0]⟩ : ByteArray) = strOfNums [0] := by decide +kernel
theorem pad_l1 (k : Nat) : ∀ (d f : Nat) (s : ByteArray), s.size + d = 32 → d < f → tarryref05_Head.l1 k f s = some ((s ++ strOfNums (List.replicate d 0)) ++ (s ++ strOfNums (List.replicate d 0)))
  | 0, f, s, hs, hf => by
    obtain ⟨f, rfl⟩ : ∃ q, f = q + 1 := ⟨f - 1, by omega⟩
    have e : strOfNums (List.replicate 0 0) = ⟨#[]⟩ := rfl
    rw [tarryref05_Head.l1, if_neg (by omega), if_pos (by omega), e, app_nil]
  | d + 1, f, s, hs, hf => by
    obtain ⟨f, rfl⟩ : ∃ q, f = q + 1 := ⟨f - 1, by omega⟩
    have h1 : (⟨#[0]⟩ : ByteArray).size = 1 := rfl
    have e : s ++ (⟨#[0]⟩ : ByteArray) ++ strOfNums (List.replicate d 0) = s ++ strOfNums (List.replicate (d + 1) 0) := by
      apply byI_inj
      have o1 : okB (List.replicate d (0 : Int)) := fun x hx => by rw [(List.mem_replicate.1 hx).2]; decide
      have o2 : okB (List.replicate (d + 1) (0 : Int)) := fun x hx => by rw [(List.mem_replicate.1 hx).2]; decide
      have o3 : okB [(0 : Int)] := fun x hx => by rw [List.mem_singleton] at hx; rw [hx]; decide
      rw [byI_app, byI_app, byI_app, zero1, byI_num o1, byI_num o2, byI_num o3, List.append_assoc]
      rfl
    have ih := pad_l1 k d f (s ++ (⟨#[0]⟩ : ByteArray)) (by rw [app_size]; omega) (by omega)
    rw [tarryref05_Head.l1, if_pos (by omega), if_pos (by omega), ih, e]
theorem hB_nat (x i : Nat) : hB (x : Int) i = ((x / 256 ^ i % 256 : Nat) : Int) := by
  have e : (2 : Int) ^ (8 * i) = ((256 ^ i : Nat) : Int) := by
    rw [show (256 : Nat) = 2 ^ 8 from rfl, ← Nat.pow_mul]
    exact (Int.natCast_pow 2 (8 * i)).symm
  unfold hB
  rw [e, Int.fdiv_eq_ediv_of_nonneg _ (Int.natCast_nonneg _), ← Int.natCast_ediv, IntKind.wrap_u8]
  exact (Int.natCast_emod _ _).symm
theorem hL_nat (x y z : Nat) (hy : y < 256) : hL x y z = [116, 97, 114, 114, 121] ++ lowL 1 y ++ lowL 8 x ++ lowL 4 z ++ List.replicate 14 0 := by
  have ey : IntKind.u8.wrap (y : Int) = ((y % 256 : Nat) : Int) := by rw [IntKind.wrap_u8]; omega
  unfold hL
  simp only [hB_nat, ey, lowL, Nat.div_div_eq_div_mul, Nat.reducePow, Nat.reduceMul, Nat.div_one]
  rfl
theorem head_tells (k x y z : Nat) (hk : 20 ≤ k) (hx : x < 9223372036854775808) (hy : y < 256) (hz : z < 9223372036854775808) : tarryref05_Head.f k x y z = some (hdI x y z) := by
  have h0 : (⟨#[116, 97, 114, 114, 121]⟩ : ByteArray).size = 5 := rfl
  have h00 : byI (⟨#[116, 97, 114, 114, 121]⟩ : ByteArray) = [116, 97, 114, 114, 121] := by decide +kernel
  have s1 : ((⟨#[116, 97, 114, 114, 121]⟩ : ByteArray) ++ strOfNums (lowL 1 y)).size = 6 := by rw [app_size, low_size, h0]
  have s2 : (((⟨#[116, 97, 114, 114, 121]⟩ : ByteArray) ++ strOfNums (lowL 1 y)) ++ strOfNums (lowL 8 x)).size = 14 := by rw [app_size, low_size, s1]
  have s3 : ((((⟨#[116, 97, 114, 114, 121]⟩ : ByteArray) ++ strOfNums (lowL 1 y)) ++ strOfNums (lowL 8 x)) ++ strOfNums (lowL 4 z)).size = 18 := by rw [app_size, low_size, s2]
  have e : (((⟨#[116, 97, 114, 114, 121]⟩ : ByteArray) ++ strOfNums (lowL 1 y)) ++ strOfNums (lowL 8 x)) ++ strOfNums (lowL 4 z) ++ strOfNums (List.replicate 14 0) = strOfNums (hL x y z) := by
    apply byI_inj
    have o1 : okB (List.replicate 14 (0 : Int)) := fun x hx => by rw [(List.mem_replicate.1 hx).2]; decide
    rw [byI_app, byI_app, byI_app, byI_app, byI_num (lowL_ok _ _), byI_num (lowL_ok _ _), byI_num (lowL_ok _ _), byI_num o1, byI_num (hL_ok _ _ _), hL_nat x y z hy, h00]
  have l1 := low_tells k 1 y hk (by decide) (by omega)
  have l2 := low_tells k 8 x hk (by decide) hx
  have l3 := low_tells k 4 z hk (by decide) hz
  unfold tarryref05_Head.f
  refine (congrArg (fun o => Option.bind o _) l1).trans ?_
  rw [Option.bind_some, if_pos (by rw [h0, low_size]; decide)]
  refine (congrArg (fun o => Option.bind o _) l2).trans ?_
  rw [Option.bind_some, if_pos (by rw [s1, low_size]; decide)]
  refine (congrArg (fun o => Option.bind o _) l3).trans ?_
  rw [Option.bind_some, if_pos (by rw [s2, low_size]; decide), pad_l1 k 14 k _ (by rw [s3]) (by omega), e]
  rfl
/-! ### the document's answer: numbers of bytes -/
def vhi (s : ByteArray) (m : Nat) : Nat → Nat
  | 0 => 0
  | d + 1 => bn s (m - (d + 1)) + 256 * vhi s m d
theorem vhi_num (s : ByteArray) (m : Nat) : ∀ d, d ≤ m → num s 0 m = num s 0 (m - d) + 256 ^ (m - d) * vhi s m d
  | 0, _ => by rw [vhi, Nat.mul_zero, Nat.add_zero, Nat.sub_zero]
  | d + 1, h => by
    have ih := vhi_num s m d (by omega)
    have e : m - d = (m - (d + 1)) + 1 := by omega
    rw [ih, e, num, vhi, Nat.zero_add, Nat.pow_succ, Nat.mul_add, Nat.mul_assoc, Nat.mul_comm (bn s (m - (d + 1))), Nat.add_assoc]
theorem vhi_le (s : ByteArray) (m d : Nat) (h : d ≤ m) : vhi s m d ≤ num s 0 m := by
  have h1 := vhi_num s m d h
  have h2 : 0 < 256 ^ (m - d) := Nat.pow_pos (by decide)
  have h3 : 1 * vhi s m d ≤ 256 ^ (m - d) * vhi s m d := Nat.mul_le_mul_right _ h2
  omega
theorem vhi_all (s : ByteArray) (m : Nat) : vhi s m m = num s 0 m := by
  have h := vhi_num s m m (Nat.le_refl _)
  rw [Nat.sub_self, Nat.pow_zero, Nat.one_mul] at h
  rw [h, num, Nat.zero_add]
def numR (s : ByteArray) (o m : Nat) : Int := if 2199023255552 < num s o m then -1 else ((num s o m : Nat) : Int)
theorem rnum_l1 (k : Nat) (s : ByteArray) (m : Nat) (hs : s.size = m) (hm : m ≤ 100) : ∀ (c d f : Nat), c + d = m → c < f → vhi s m d ≤ 2199023255552 → tarryref05_number.l1 k s f ((vhi s m d : Nat) : Int) ((c : Int) - 1) = some (numR s 0 m)
  | 0, d, f, hc, hf, hv => by
    obtain ⟨f, rfl⟩ : ∃ q, f = q + 1 := ⟨f - 1, by omega⟩
    have hd : d = m := by omega
    rw [hd, vhi_all] at hv ⊢
    rw [tarryref05_number.l1, if_neg (by omega)]
    unfold numR
    rw [if_neg (by omega)]
  | c + 1, d, f, hc, hf, hv => by
    obtain ⟨f, rfl⟩ : ∃ q, f = q + 1 := ⟨f - 1, by omega⟩
    have e0 : ((c + 1 : Nat) : Int) - 1 = (c : Int) := by omega
    have hb := bn_lt s c
    have ec : m - (d + 1) = c := by omega
    have c1 : (c : Int) ≥ 0 := Int.natCast_nonneg _
    have c2 : (c : Int) < (s.size : Int) := by omega
    have hle := vhi_le s m (d + 1) (by omega)
    have hv2 : vhi s m (d + 1) = bn s c + 256 * vhi s m d := by rw [vhi, ec]
    have ih := rnum_l1 k s m hs hm c (d + 1) f (by omega) (by omega)
    have e1 : wrap64 ((wrap64 (256 * ((vhi s m d : Nat) : Int))) + ((bn s c : Nat) : Int)) = ((vhi s m (d + 1) : Nat) : Int) := by
      rw [hv2, wrap64_id (a := 256 * ((vhi s m d : Nat) : Int)) (by omega) (by omega)]
      exact (wrap64_id (by omega) (by omega)).trans (by omega)
    have e2 : wrap64 ((c : Int) - 1) = (c : Int) - 1 := wrap64_id (by omega) (by omega)
    rw [e0, tarryref05_number.l1, if_pos c1, if_pos c1, if_pos c2, bt_w, e1, e2]
    by_cases hq : vhi s m (d + 1) ≤ 2199023255552
    · rw [if_neg (by clear e1 e2; omega)]
      exact ih hq
    · rw [if_pos (by clear e1 e2; omega)]
      unfold numR
      rw [if_pos (by clear e1 e2; omega)]
theorem rnum_tells (k : Nat) (hk : 200 ≤ k) (s : ByteArray) (m : Nat) (hs : s.size = m) (hm : m ≤ 100) : tarryref05_number.f k s = some (numR s 0 m) := by
  have h := rnum_l1 k s m hs hm m 0 k (by omega) (by omega) (by rw [vhi]; decide)
  unfold tarryref05_number.f
  rw [hs, wrap64_id (by omega) (by omega)]
  exact h
theorem num_ext (s : ByteArray) (o e : Nat) : ∀ i, o + i ≤ e → num (s.extract o e) 0 i = num s o i
  | 0, _ => rfl
  | i + 1, h => by
    have hb : bn (s.extract o e) (0 + i) = bn s (o + i) := by
      have := bt_ext s o e i
      rw [if_pos (by omega), bt_bn, bt_bn] at this
      rw [Nat.zero_add]
      omega
    rw [num, num, num_ext s o e i (by omega), hb]
/-! ### the document's answer: what opens, and which may be -/
theorem numR_head {at' : Int} {n : Nat} {s : ByteArray} (h : isHead at' n s) : numR s 6 8 = sT s ∧ numR s 14 4 = sZ s := by
  have h1 := h.1
  have h2 := h.2.1
  have l8 := num_lt s 6 8
  have l4 := num_lt s 14 4
  have e8 : (256 : Nat) ^ 8 = 18446744073709551616 := by decide +kernel
  have e4 : (256 : Nat) ^ 4 = 4294967296 := by decide +kernel
  unfold numR sT sZ at *
  generalize num s 6 8 = a at *
  generalize num s 14 4 = b at *
  unfold wrap64 at *
  constructor
  · rw [if_neg (by omega)]
    omega
  · rw [if_neg (by omega)]
theorem sT_le {s : ByteArray} (h : 1 ≤ numR s 6 8) : numR s 6 8 = sT s ∧ numR s 14 4 = sZ s := by
  have l4 := num_lt s 14 4
  have e4 : (256 : Nat) ^ 4 = 4294967296 := by decide +kernel
  unfold numR sT sZ at *
  generalize num s 6 8 = a at *
  generalize num s 14 4 = b at *
  unfold wrap64
  by_cases c : 2199023255552 < a
  · rw [if_pos c] at h
    exact absurd h (by decide)
  · constructor
    · rw [if_neg c]
      omega
    · rw [if_neg (by omega)]
theorem rread_tells (k : Nat) (hk : 200 ≤ k) (ss : List ByteArray) (ws : List S55) (at' : Nat) (hat : at' < ss.length) (hs : (ss.getD at' ⟨#[]⟩).size = 64) (h2 : 2 ≤ ss.length) (h3 : ss.length ≤ 512) :
    tarryref05_read.f k ss ws (at' : Int) = some (if isHead (at' : Int) ss.length (ss.getD at' ⟨#[]⟩) then ([], [], sT (ss.getD at' ⟨#[]⟩), sY (ss.getD at' ⟨#[]⟩), sZ (ss.getD at' ⟨#[]⟩), [], []) else ([], [], 0, 0, 0, [], [])) := by
  have g0 : ss[at']? = some (ss.getD at' ⟨#[]⟩) := by rw [List.getD_eq_getElem?_getD, List.getElem?_eq_getElem hat]; rfl
  unfold tarryref05_read.f
  rw [if_pos (Int.natCast_nonneg _), Int.toNat_natCast, g0, Option.bind_some]
  generalize ss.getD at' ⟨#[]⟩ = s at hs ⊢
  have n1 := rnum_tells k hk (s.extract 6 14) 8 (by rw [ext_size _ _ _ (by omega)]) (by decide)
  have n2 := rnum_tells k hk (s.extract 14 18) 4 (by rw [ext_size _ _ _ (by omega)]) (by decide)
  have e1 : numR (s.extract 6 14) 0 8 = numR s 6 8 := by unfold numR; rw [num_ext s 6 14 8 (by decide)]
  have e2 : numR (s.extract 14 18) 0 4 = numR s 14 4 := by unfold numR; rw [num_ext s 14 18 4 (by decide)]
  rw [e1] at n1
  rw [e2] at n2
  rw [if_pos (by omega), if_pos (by decide), n1, Option.bind_some, if_pos (by omega), if_pos (by omega), if_pos (by decide), n2, Option.bind_some, sY_w]
  by_cases c1 : numR s 6 8 < 1
  · rw [if_pos c1, if_neg]
    intro h
    rw [(numR_head h).1] at c1
    exact absurd h.1 (by omega)
  · obtain ⟨f1, f2⟩ := sT_le (s := s) (by omega)
    rw [if_neg c1, f1, f2]
    rw [f1] at c1
    have hy := sY_range s
    by_cases c2 : sT s > 1099511627776
    · rw [if_pos c2, if_neg fun h => absurd h.2.1 (by omega)]
    · rw [if_neg c2]
      by_cases c3 : (sT s).tmod 2 = (at' : Int)
      · rw [if_pos c3]
        by_cases c4 : sY s > 1
        · rw [if_pos c4, if_neg fun h => absurd h.2.2.2.1 (by omega)]
        · have hz : ¬ sZ s < 0 := Int.not_lt.2 (Int.natCast_nonneg _)
          rw [if_neg c4, if_neg hz, rroom_tells h2 (by omega), Option.bind_some]
          by_cases c5 : sZ s > ((room ss.length : Nat) : Int)
          · rw [if_pos c5, if_neg fun h => absurd h.2.2.2.2.1 (by omega)]
          · obtain ⟨x, hx⟩ := Int.eq_ofNat_of_zero_le (show 0 ≤ sT s by omega)
            obtain ⟨y, hy'⟩ := Int.eq_ofNat_of_zero_le hy.1
            obtain ⟨z, hz'⟩ := Int.eq_ofNat_of_zero_le (Int.not_lt.1 hz)
            have hrl := room_le h3
            have hh := head_tells k x y z (by omega) (by omega) (by omega) (by omega)
            rw [← hx, ← hy', ← hz'] at hh
            rw [if_neg c5, hh, Option.bind_some, beq_is]
            by_cases c6 : s = hdI (sT s) (sY s) (sZ s)
            · rw [if_pos (decide_eq_true c6), if_pos (show isHead (at' : Int) ss.length s from ⟨by omega, by omega, c3, by omega, by omega, c6⟩)]
            · rw [if_neg (by rw [decide_eq_false c6]; decide), if_neg fun h => c6 h.2.2.2.2.2]
      · rw [if_neg c3, if_neg fun h => c3 h.2.2.1]
theorem cat_take {ss : List ByteArray} {i : Nat} (hi : i < ss.length) : cat (ss.take (i + 1)) = cat (ss.take i) ++ ss.getD i ⟨#[]⟩ := by
  rw [List.take_add_one, cat_app, List.getElem?_eq_getElem hi, List.getD_eq_getElem?_getD, List.getElem?_eq_getElem hi]
  congr 1
  exact app_nil _
theorem rbytes_l1 (k : Nat) (hk : 600 ≤ k) (hk2 : k ≤ 1000000) (ss : List ByteArray) (h8 : 8 ≤ ss.length) (h5 : ss.length ≤ 512) (hs : ∀ x ∈ ss, x.size = 64) (y z : Nat) (hy : y ≤ 1) (hz : z ≤ room ss.length) : ∀ (d f i : Nat), i + d = hf ss → d < f → tarryref05_Bytes.l1 k y z ss [] f (cat ((secs ss y).take i)) (i : Int) = some (byts ss y z)
  | 0, f, i, hi, hf' => by
    obtain ⟨f, rfl⟩ : ∃ q, f = q + 1 := ⟨f - 1, by omega⟩
    have hh := half_is (n := ss.length) (by omega) (by omega)
    have hH : (ss.length - 2) / 2 = hf ss := rfl
    rw [hH] at hh
    have hsl := secs_len hy h8
    have hcs := cat_size (l := secs ss y) fun x hx => hs x (secs_in hx)
    have hroom : room ss.length = hf ss * 64 := rfl
    have hi' : i = hf ss := by omega
    have c1 : ¬ (i : Int) < ((hf ss : Nat) : Int) := by clear hh; omega
    have c2 : (z : Int) ≤ ((cat (secs ss y)).size : Int) := by clear hh; omega
    rw [tarryref05_Bytes.l1, hh, if_neg c1, if_pos (Int.natCast_nonneg _), List.take_of_length_le (by clear hh; omega), if_pos c2, Int.toNat_natCast]
    rfl
  | d + 1, f, i, hi, hf' => by
    obtain ⟨f, rfl⟩ : ∃ q, f = q + 1 := ⟨f - 1, by omega⟩
    have hh := half_is (n := ss.length) (by omega) (by omega)
    have hH : (ss.length - 2) / 2 = hf ss := rfl
    rw [hH] at hh
    have hsl := secs_len hy h8
    have hyh : y * hf ss ≤ 1 * hf ss := Nat.mul_le_mul_right _ hy
    have hfl : 2 + 2 * hf ss ≤ ss.length := by clear hh; omega
    have ih := rbytes_l1 k hk hk2 ss h8 h5 hs y z hy hz d f (i + 1) (by omega) (by omega)
    have hil : i < (secs ss y).length := by omega
    have hcs := cat_size (l := (secs ss y).take i) fun x hx => hs x (secs_in (List.mem_of_mem_take hx))
    have htl : ((secs ss y).take i).length ≤ 512 := by rw [List.length_take]; clear hh; omega
    have hp : 2 + y * hf ss + i < ss.length := by
      clear hh ih
      generalize y * hf ss = q at hyh ⊢
      omega
    have eg : (secs ss y).getD i ⟨#[]⟩ = ss.getD (2 + y * hf ss + i) ⟨#[]⟩ := by
      unfold secs
      rw [List.getD_eq_getElem?_getD, List.getD_eq_getElem?_getD, List.getElem?_take, if_pos (by clear hh; omega), List.getElem?_drop]
    have e0 : wrap64 ((wrap64 (2 + (wrap64 ((y : Int) * (hf ss : Int))))) + (i : Int)) = ((2 + y * hf ss + i : Nat) : Int) := by
      have e : (y : Int) * (hf ss : Int) = ((y * hf ss : Nat) : Int) := (Int.natCast_mul y _).symm
      rw [e]
      clear hh ih eg
      generalize y * hf ss = q at hyh hp ⊢
      rw [wrap64_id (a := (q : Int)) (by omega) (by omega), wrap64_id (a := 2 + (q : Int)) (by omega) (by omega)]
      exact (wrap64_id (by omega) (by omega)).trans (by omega)
    have e1 : wrap64 ((i : Int) + 1) = ((i + 1 : Nat) : Int) := (wrap64_id (by clear hh e0; omega) (by clear hh e0; omega)).trans (by rfl)
    have hg := rget_tells k ss [] ((2 + y * hf ss + i : Nat) : Int) (Int.natCast_nonneg _) (by clear hh e0 e1; omega) (by rw [List.length_nil]; clear hh e0 e1; omega) hk2
    rw [Int.toNat_natCast] at hg
    have hsz := getD_size hs hp
    have c1 : (i : Int) < ((hf ss : Nat) : Int) := by clear hh e0 e1; omega
    have hgn : getF ((2 + y * hf ss + i : Nat) : Int) [] (ss.getD (2 + y * hf ss + i) ⟨#[]⟩) = ss.getD (2 + y * hf ss + i) ⟨#[]⟩ := rfl
    rw [hgn] at hg
    have hadd : (cat ((secs ss y).take i)).size + (ss.getD (2 + y * hf ss + i) ⟨#[]⟩).size ≤ 9223372036854775807 := by
      rw [hcs, hsz]
      clear hh e0 e1 hg
      omega
    rw [tarryref05_Bytes.l1, hh, if_pos c1, e0, hg, Option.bind_some, if_pos hadd, e1, ← eg, ← cat_take hil, ih]
theorem rbytes_tells (k : Nat) (hk : 600 ≤ k) (hk2 : k ≤ 1000000) (ss : List ByteArray) (h8 : 8 ≤ ss.length) (h5 : ss.length ≤ 512) (hs : ∀ x ∈ ss, x.size = 64) (y z : Nat) (hy : y ≤ 1) (hz : z ≤ room ss.length) : tarryref05_Bytes.f k ss [] y z = some (byts ss y z) := by
  have hH : (ss.length - 2) / 2 = hf ss := rfl
  have h := rbytes_l1 k hk hk2 ss h8 h5 hs y z hy hz (hf ss) k 0 (by omega) (by omega)
  unfold tarryref05_Bytes.f
  exact h
/-- What follows the choice of a head. -/
theorem ropen_fin (k : Nat) (hk : 20000 ≤ k) (hk2 : k ≤ 1000000) (ss : List ByteArray) (h8 : 8 ≤ ss.length) (h5 : ss.length ≤ 512) (hs : ∀ x ∈ ss, x.size = 64) (x y z : Int) (hb : x = 0 ∨ (0 ≤ y ∧ y ≤ 1 ∧ 0 ≤ z ∧ z ≤ ((room ss.length : Nat) : Int))) :
    (if x = 0 then (some (([] : List ByteArray), ([] : List S55), (0 : Int), (0 : Int), (0 : Int), ([] : List ByteArray), ([] : List ByteArray), (5 : Int))) else ((tarryref05_Bytes.f k ss [] y z).bind fun t27143 => ((tarryref04_Scan.f k t27143).bind fun r27145 => ((tarryref04_Whole.f k r27145).bind fun t27157 => (if (t27157 == t27143) = true then (some (ss, ([] : List S55), x, y, z, ([] : List ByteArray), r27145, (0 : Int))) else (some (([] : List ByteArray), ([] : List S55), (0 : Int), (0 : Int), (0 : Int), ([] : List ByteArray), ([] : List ByteArray), (6 : Int))))))))
    = some (outO ss [] (if x = 0 then .error 5 else if (recs (byts ss y.toNat z.toNat)).2.size = 0 then .ok (x, y, z, (recs (byts ss y.toNat z.toNat)).1) else .error 6)) := by
  by_cases hx : x = 0
  · rw [if_pos hx, if_pos hx]
    rfl
  · obtain ⟨y0, y1, z0, z1⟩ := hb.resolve_left hx
    obtain ⟨y, rfl⟩ := Int.eq_ofNat_of_zero_le y0
    obtain ⟨z, rfl⟩ := Int.eq_ofNat_of_zero_le z0
    have hrl := room_le h5
    have hbs := byts_size (ss := ss) (y := y) (z := z) hs h8 (by omega) (by omega)
    have hrs := recs_is (byts ss y z)
    obtain ⟨i1, i2, i3⟩ := hrs.is
    have hsc := rscan_tells hrs k (by omega) (by rw [hbs]; omega) (by rw [hbs]; omega)
    have hwl := whole_len i2
    have hsz := congrArg ByteArray.size i1
    rw [app_size, hbs] at hsz
    have hwt := rwhole_tells k (by omega) _ i2 (by omega) (by omega) (by omega)
    rw [if_neg hx, if_neg hx, rbytes_tells k (by omega) hk2 ss h8 h5 hs y z (by omega) (by omega), Option.bind_some, hsc, Option.bind_some, hwt, Option.bind_some, beq_is, Int.toNat_natCast, Int.toNat_natCast]
    by_cases h0 : (recs (byts ss y z)).2.size = 0
    · have e : whole (recs (byts ss y z)).1 = byts ss y z := (recs_inv h0).1.symm
      rw [if_pos (decide_eq_true e), if_pos h0]
      rfl
    · have e : whole (recs (byts ss y z)).1 ≠ byts ss y z := by
        intro e
        have := congrArg ByteArray.size e
        rw [hbs] at this
        omega
      rw [if_neg (by rw [decide_eq_false e]; decide), if_neg h0]
      rfl
theorem ropen_tells (k : Nat) (hk : 20000 ≤ k) (hk2 : k ≤ 1000000) (ss : List ByteArray) (ws : List S55) (h1 : ss.length < k) (h2 : ws.length < k) : tarryref05_Open.f k ss ws = some (outO ss ws (opn ss ws)) := by
  unfold tarryref05_Open.f opn
  rw [rright_tells k ss ws h1 h2 hk2, Option.bind_some]
  by_cases hr : rightB ss ws = true
  · rw [if_pos hr]
    obtain ⟨⟨r1, r2, r3⟩, r4, r5⟩ := rightB_is.1 hr
    by_cases h8 : ss.length < 8
    · rw [if_pos (by omega), if_neg (by rintro ⟨_, h, _⟩; omega)]
      rfl
    · rw [if_neg (by omega)]
      by_cases hw : ws = []
      · subst hw
        have hl0 : ¬ ((([] : List S55).length : Int) > 0) := by decide
        have s0 := getD_size r4 (a := 0) (by omega)
        have s1 := getD_size r4 (a := 1) (by omega)
        have q0 : tarryref05_read.f k ss [] 0 = some (if isHead 0 ss.length (ss.getD 0 ⟨#[]⟩) then ([], [], sT (ss.getD 0 ⟨#[]⟩), sY (ss.getD 0 ⟨#[]⟩), sZ (ss.getD 0 ⟨#[]⟩), [], []) else ([], [], 0, 0, 0, [], [])) := rread_tells k (by omega) ss [] 0 (by omega) s0 (by omega) r2
        have q1 : tarryref05_read.f k ss [] 1 = some (if isHead 1 ss.length (ss.getD 1 ⟨#[]⟩) then ([], [], sT (ss.getD 1 ⟨#[]⟩), sY (ss.getD 1 ⟨#[]⟩), sZ (ss.getD 1 ⟨#[]⟩), [], []) else ([], [], 0, 0, 0, [], [])) := rread_tells k (by omega) ss [] 1 (by omega) s1 (by omega) r2
        rw [if_neg hl0, if_pos (show rightB ss [] = true ∧ 8 ≤ ss.length ∧ ([] : List S55) = [] from ⟨hr, by omega, rfl⟩)]
        have fin := ropen_fin k hk hk2 ss (by omega) r2 r4
        have key : ∀ (a : Int) (s : ByteArray), isHead a ss.length s → (0 ≤ sY s ∧ sY s ≤ 1 ∧ 0 ≤ sZ s ∧ sZ s ≤ ((room ss.length : Nat) : Int)) := fun a s h => ⟨(sY_range s).1, h.2.2.2.1, Int.natCast_nonneg _, h.2.2.2.2.1⟩
        by_cases i0 : isHead 0 ss.length (ss.getD 0 ⟨#[]⟩)
        · have p0 : ¬ (0 : Int) > sT (ss.getD 0 ⟨#[]⟩) := Int.not_lt.2 (Int.le_trans (by decide) i0.1)
          by_cases i1 : isHead 1 ss.length (ss.getD 1 ⟨#[]⟩)
          · rw [if_pos i0] at q0
            rw [if_pos i1] at q1
            refine (congrArg (fun o => Option.bind o _) q0).trans ?_
            rw [Option.bind_some]
            refine (congrArg (fun o => Option.bind o _) q1).trans ?_
            rw [Option.bind_some]
            simp only
            by_cases c : sT (ss.getD 1 ⟨#[]⟩) > sT (ss.getD 0 ⟨#[]⟩)
            · rw [if_pos c, best_3 i0 ⟨i1, c⟩]
              exact fin _ _ _ (.inr (key _ _ i1))
            · rw [if_neg c, best_2 i0 fun h => c h.2]
              exact fin _ _ _ (.inr (key _ _ i0))
          · rw [if_pos i0] at q0
            rw [if_neg i1] at q1
            refine (congrArg (fun o => Option.bind o _) q0).trans ?_
            rw [Option.bind_some]
            refine (congrArg (fun o => Option.bind o _) q1).trans ?_
            rw [Option.bind_some]
            simp only
            rw [if_neg p0, best_2 i0 fun h => i1 h.1]
            exact fin _ _ _ (.inr (key _ _ i0))
        · by_cases i1 : isHead 1 ss.length (ss.getD 1 ⟨#[]⟩)
          · have p1 : sT (ss.getD 1 ⟨#[]⟩) > 0 := Int.lt_of_lt_of_le (by decide) i1.1
            rw [if_neg i0] at q0
            rw [if_pos i1] at q1
            refine (congrArg (fun o => Option.bind o _) q0).trans ?_
            rw [Option.bind_some]
            refine (congrArg (fun o => Option.bind o _) q1).trans ?_
            rw [Option.bind_some]
            simp only
            rw [if_pos p1, best_1 i0 i1]
            exact fin _ _ _ (.inr (key _ _ i1))
          · rw [if_neg i0] at q0
            rw [if_neg i1] at q1
            refine (congrArg (fun o => Option.bind o _) q0).trans ?_
            rw [Option.bind_some]
            refine (congrArg (fun o => Option.bind o _) q1).trans ?_
            rw [Option.bind_some]
            simp only
            rw [if_neg (by decide), best_0 i0 i1]
            exact fin _ _ _ (.inl rfl)
      · have hwl : ((ws.length : Int) > 0) := by
          cases ws with
          | nil => exact absurd rfl hw
          | cons w ws => simp only [List.length_cons]; omega
        rw [if_pos hwl, if_neg (by rintro ⟨_, _, h⟩; exact hw h)]
        rfl
  · rw [if_neg hr, if_neg (by rintro ⟨h, _⟩; exact hr h)]
    rfl
theorem rwaits_l1 (k : Nat) (hk : 5000 ≤ k) (z : Nat) (ss : List ByteArray) (l : List ByteArray) (hn : 2 ≤ ss.length) (hn2 : ss.length ≤ 512) (hz : z ≤ 1000000) (hl : l.length < 1000) (hall : (∀ s ∈ l, s.size ≤ 1000) → tarryref04_Whole.f k l = some (whole l)) : ∀ (d f i : Nat), i + d = l.length → d < f → (∀ s ∈ l.take i, s.size ≤ 1000) → tarryref05_Waits.l1 k z ss l f (i : Int) = some (wts ss.length z l)
  | 0, f, i, hi, hf', hs => by
    obtain ⟨f, rfl⟩ : ∃ q, f = q + 1 := ⟨f - 1, by omega⟩
    rw [List.take_of_length_le (by omega)] at hs
    have h2 := whole_le hs (by decide)
    have hr := room_le hn2
    rw [tarryref05_Waits.l1, if_neg (by omega), hall hs, Option.bind_some]
    unfold wts
    rw [longs_of hs, if_neg Bool.false_ne_true]
    generalize (whole l).size = v at h2 ⊢
    by_cases c1 : 16 < l.length
    · rw [if_pos (by omega), if_pos (.inl c1)]
    · rw [if_neg (by omega)]
      by_cases c2 : 3000 < v
      · rw [if_pos (by omega), if_pos (.inr (.inl c2))]
      · have e : wrap64 ((z : Int) + (v : Int)) = ((z + v : Nat) : Int) := by
          rw [← Int.natCast_add]
          exact wrap64_id (by omega) (by omega)
        rw [if_neg (by clear e; omega), rroom_tells hn (by clear e; omega), Option.bind_some, e]
        generalize room ss.length = rm at hr ⊢
        by_cases c3 : rm < z + v
        · rw [if_pos (by clear e; omega), if_pos (.inr (.inr c3))]
        · rw [if_neg (by clear e; omega), if_neg]
          rintro (h | h | h)
          · exact c1 h
          · exact c2 h
          · exact c3 h
  | d + 1, f, i, hi, hf', hs => by
    obtain ⟨f, rfl⟩ : ∃ q, f = q + 1 := ⟨f - 1, by omega⟩
    have hil : i < l.length := by omega
    have e1 : wrap64 ((i : Int) + 1) = ((i + 1 : Nat) : Int) := (wrap64_id (by omega) (by omega)).trans (by rfl)
    have g : l[i]? = some l[i] := List.getElem?_eq_getElem hil
    rw [tarryref05_Waits.l1, if_pos (by clear e1; omega), if_pos (Int.natCast_nonneg _), Int.toNat_natCast, g, Option.bind_some]
    by_cases c : l[i].size > 1000
    · rw [if_pos (by clear e1; omega)]
      have hlo : longs l = true := by
        cases hlo : longs l with
        | true => rfl
        | false =>
          have := longs_not hlo _ (List.getElem_mem hil)
          exact absurd this (by clear e1; omega)
      unfold wts
      rw [hlo, if_pos rfl]
    · rw [if_neg (by clear e1; omega), e1]
      refine rwaits_l1 k hk z ss l hn hn2 hz hl hall d f (i + 1) (by clear e1; omega) (by clear e1; omega) ?_
      intro s hs'
      rw [List.take_add_one, g] at hs'
      rcases List.mem_append.1 hs' with h | h
      · exact hs s h
      · have : s = l[i] := by simpa using h
        rw [this]
        exact Nat.not_lt.1 c
theorem rwaits_tells (k : Nat) (hk : 20000 ≤ k) (ss : List ByteArray) (ws : List S55) (x y : Int) (z : Nat) (g r l : List ByteArray) (hn : 2 ≤ ss.length) (hn2 : ss.length ≤ 512) (hz : z ≤ 1000000) (hl : l.length < 900) : tarryref05_Waits.f k ss ws x y (z : Int) g r l = some (wts ss.length z l) := by
  have h := rwaits_l1 k (by omega) z ss l hn hn2 hz (by omega) (fun hs => rwhole_tells k (by omega) l (fun d hd => Nat.le_trans (hs d hd) (by decide)) (by omega) (by have := whole_le hs (by decide); generalize (whole l).size = v at this ⊢; omega) (by omega)) l.length k 0 (by omega) (by omega) (fun s hs => by rw [List.take_zero] at hs; exact absurd hs (List.not_mem_nil))
  unfold tarryref05_Waits.f
  exact h
theorem rright_j (k : Nat) (hk : 20000 ≤ k) (hk2 : k ≤ 1000000) (ss : List ByteArray) (ws : List S55) (x y z : Int) (g r : List ByteArray) (h1 : ss.length < k) (h2 : ws.length < k) (hg : g.length < 900) (hr : r.length < 900) : tarryref05_Right.f k ss ws x y z g r = some (rightJ ss ws x y z g r) := by
  unfold tarryref05_Right.f rightJ
  rw [ropen_tells k hk hk2 ss ws h1 h2, Option.bind_some]
  cases ho : opn ss ws with
  | error e =>
    have he := opn_err ho
    simp only [outO]
    exact if_neg he
  | ok p =>
    obtain ⟨q1, q2, q3, x', y', z', e1, e2, e3, b1, b2, b3, b4, b5, b6, b7⟩ := opn_ok ho
    obtain ⟨p1, p2, p3, l⟩ := p
    simp only at e1 e2 e3 b6 b7
    subst e1 e2 e3
    obtain ⟨⟨r1, r2, r3⟩, r4, r5⟩ := rightB_is.1 q1
    have hl := whole_len b7
    rw [← b6, byts_size r4 q2 b3 b4] at hl
    have hrl := room_le r2
    have hsame := same_tells k l r (by omega) (by omega)
    simp only [outO]
    rw [if_pos trivial]
    by_cases c1 : (x' : Int) = x
    · subst c1
      by_cases c2 : (y' : Int) = y
      · subst c2
        by_cases c3 : (z' : Int) = z
        · subst c3
          refine (if_pos rfl).trans ((if_pos rfl).trans ((if_pos rfl).trans ?_))
          rw [hsame, Option.bind_some]
          by_cases c4 : l = r
          · subst c4
            rw [decide_eq_true rfl, if_pos rfl, rwaits_tells k hk ss ws x' y' z' g l g (by omega) r2 (by omega) hg, Option.bind_some, decide_eq_true rfl, Bool.true_and, Int.toNat_natCast]
            congr 1
          · rw [decide_eq_false c4, decide_eq_false fun e => c4 (Prod.mk.inj (Prod.mk.inj (Prod.mk.inj e).2).2).2, Bool.false_and]
            rfl
        · rw [decide_eq_false fun e => c3 (Prod.mk.inj (Prod.mk.inj (Prod.mk.inj e).2).2).1, Bool.false_and]
          exact (if_pos rfl).trans ((if_pos rfl).trans (if_neg c3))
      · rw [decide_eq_false fun e => c2 (Prod.mk.inj (Prod.mk.inj e).2).1, Bool.false_and]
        exact (if_pos rfl).trans (if_neg c2)
    · rw [decide_eq_false fun e => c1 (Prod.mk.inj e).1, Bool.false_and]
      exact if_neg c1
theorem rlike_self (k : Nat) (hk : 20000 ≤ k) (hk2 : k ≤ 1000000) (ss : List ByteArray) (ws : List S55) (x y z : Int) (g r : List ByteArray) (h1 : ss.length < k) (h2 : ws.length < k) (hg : g.length < k) (hr : r.length < k) : tarryref05_Like.f k ss ws x y z g r ss ws x y z g r = some true := by
  unfold tarryref05_Like.f
  rw [if_pos rfl, if_pos rfl, if_pos rfl, same_tells k g g hg (by omega), Option.bind_some, decide_eq_true rfl, if_pos rfl, same_tells k r r hr (by omega), Option.bind_some, decide_eq_true rfl, if_pos rfl, like_self k ss ws h1 h2 hk2, Option.bind_some]
theorem z64_num : strOfNums (List.replicate 64 (0 : Int)) = Z64 := by decide +kernel
theorem opens_l4 (k n : Nat) (h : 8 ≤ n) (h2 : n ≤ 512) : ∀ (d f i : Nat), i + d = n → d < f → tarrylaw05_JournalOpens.l4 k (fmt n) f (i : Int) = some true
  | 0, f, i, hi, hf' => by
    obtain ⟨f, rfl⟩ : ∃ q, f = q + 1 := ⟨f - 1, by omega⟩
    have hl := fmt_len h h2
    rw [tarrylaw05_JournalOpens.l4, if_neg (by omega)]
  | d + 1, f, i, hi, hf' => by
    obtain ⟨f, rfl⟩ : ∃ q, f = q + 1 := ⟨f - 1, by omega⟩
    have hl := fmt_len h h2
    have hg := fmt_getD h h2 (p := i) (by omega)
    have g0 : (fmt n)[i]? = some ((fmt n).getD i ⟨#[]⟩) := by rw [List.getD_eq_getElem?_getD, List.getElem?_eq_getElem (by omega)]; rfl
    have ih := opens_l4 k n h h2 d f (i + 1) (by omega) (by omega)
    have e1 : wrap64 ((i : Int) + 1) = ((i + 1 : Nat) : Int) := (wrap64_id (by omega) (by omega)).trans (by rfl)
    rw [tarrylaw05_JournalOpens.l4, if_pos (by clear e1; omega), if_pos (Int.natCast_nonneg _), Int.toNat_natCast, g0, Option.bind_some, e1, ih]
    by_cases c : i = 1
    · rw [if_pos (by clear e1; omega)]
    · rw [if_neg (by clear e1; omega), if_pos (List.length_replicate), z64_num, hg, if_neg c, beq_is, if_pos (decide_eq_true rfl)]
theorem outO_len (ss : List ByteArray) (ws : List S55) (h1 : ss.length ≤ 600) (h2 : ws.length ≤ 600) : (outO ss ws (opn ss ws)).1.length ≤ 4000 ∧ (outO ss ws (opn ss ws)).2.1.length ≤ 4000 ∧ (outO ss ws (opn ss ws)).2.2.2.2.2.1.length ≤ 4000 ∧ (outO ss ws (opn ss ws)).2.2.2.2.2.2.1.length ≤ 4000 := by
  cases ho : opn ss ws with
  | error e => exact ⟨Nat.zero_le _, Nat.zero_le _, Nat.zero_le _, Nat.zero_le _⟩
  | ok p =>
    obtain ⟨q1, q2, q3, x', y', z', e1, e2, e3, b1, b2, b3, b4, b5, b6, b7⟩ := opn_ok ho
    obtain ⟨⟨r1, r2, r3⟩, r4, r5⟩ := rightB_is.1 q1
    have hl := whole_len b7
    rw [← b6, byts_size r4 q2 b3 b4] at hl
    have hrl := room_le r2
    exact ⟨Nat.le_trans h1 (by decide), Nat.le_trans h2 (by decide), Nat.zero_le _, by show p.2.2.2.length ≤ 4000; omega⟩
theorem opens_fmt (k : Nat) (hk : 20000 ≤ k) (hk2 : k ≤ 1000000) (a0 : Int) : ((journal_Format.f k a0).bind fun ⟨r27631, r27632, t27633, t27634, t27635, r27636, r27637, t27638⟩ => (if a0 < 8 then (tarrylaw05_JournalOpens.j2 k a0 r27631 r27632 r27636 r27637 t27633 t27634 t27635 t27638 true) else (tarrylaw05_JournalOpens.j2 k a0 r27631 r27632 r27636 r27637 t27633 t27634 t27635 t27638 (decide (a0 > 512))))) = some true := by
  have hn : tarryref05_Like.f k [] [] 0 0 0 [] [] [] [] 0 0 0 [] [] = some true := rlike_self k hk hk2 [] [] 0 0 0 [] [] (by rw [List.length_nil]; omega) (by rw [List.length_nil]; omega) (by rw [List.length_nil]; omega) (by rw [List.length_nil]; omega)
  by_cases hb : a0 < 8 ∨ a0 > 512
  · have hbad : tarrylaw05_JournalOpens.j2 k a0 [] [] [] [] 0 0 0 1 true = some true := by
      unfold tarrylaw05_JournalOpens.j2
      rw [if_pos rfl, if_pos rfl, hn]
      rfl
    rw [format_bad k a0 hb, Option.bind_some]
    simp only [noJ]
    by_cases c : a0 < 8
    · rw [if_pos c]
      exact hbad
    · rw [if_neg c, decide_eq_true (by omega)]
      exact hbad
  · obtain ⟨n, rfl⟩ := Int.eq_ofNat_of_zero_le (show 0 ≤ a0 by omega)
    have h1 : 8 ≤ n := by omega
    have h2 : n ≤ 512 := by omega
    have hl := fmt_len h1 h2
    have hg := fmt_getD h1 h2 (p := 1) (by omega)
    rw [if_pos rfl] at hg
    have g0 : (fmt n)[1]? = some (hdI 1 0 0) := by rw [← hg, List.getD_eq_getElem?_getD, List.getElem?_eq_getElem (by omega)]; rfl
    have hh := head_tells k 1 0 0 (by omega) (by decide) (by decide) (by decide)
    have h4 := opens_l4 k n h1 h2 n k 0 (by omega) (by omega)
    have e0 : wrap64 (((([] : List ByteArray).length : Nat) : Int) + ((([] : List ByteArray).length : Nat) : Int)) = 0 := by decide +kernel
    rw [format_ok k hk hk2 n h1 h2, Option.bind_some]
    simp only
    rw [if_neg (by omega), decide_eq_false (by omega)]
    unfold tarrylaw05_JournalOpens.j2
    rw [if_neg (by decide), if_pos rfl, if_pos (by omega), g0, Option.bind_some]
    refine (congrArg (fun o => Option.bind o _) hh).trans ?_
    rw [Option.bind_some, beq_is]
    refine (if_pos (decide_eq_true rfl)).trans ?_
    rw [if_pos rfl, if_pos rfl, if_pos rfl]
    exact (if_pos e0).trans h4
theorem JournalOpens : tarrylaw05_JournalOpens.Pure := by
  intro a0 ds dw ss ws x y z g r h0 h1 h2 h3 h4 h5 h6 h7 h8 h9
  obtain ⟨k, hk, hk2⟩ : ∃ k : Nat, 20000 ≤ k ∧ k ≤ 1000000 := ⟨20000, by decide, by decide⟩
  refine ⟨k, ?_⟩
  obtain ⟨ss', ws', g', r', hf', b1, b2, b3, b4, _, _⟩ := few_tells k (by omega) ss ws x y z g r
  have hal := alive_tells k hk hk2
  have hd := disk_tells k (by omega) ds dw
  have d1 : ((ds.take 30).map cut66).length ≤ 30 := by rw [List.length_map, List.length_take]; omega
  have d2 : ((dw.take 4).map cutW).length ≤ 4 := by rw [List.length_map, List.length_take]; omega
  have hfm := opens_fmt k hk hk2 a0
  have hR := right_j k hk hk2 ss' ws' x y z g' r' (by omega) (by omega) (by omega)
  have hRr := rright_j k hk hk2 ss' ws' x y z g' r' (by omega) (by omega) (by omega) (by omega)
  unfold tarrylaw05_JournalOpens.f
  rw [hd, Option.bind_some]
  simp only
  rw [hf', Option.bind_some]
  generalize (ds.take 30).map cut66 = D at d1 ⊢
  generalize (dw.take 4).map cutW = W at d2 ⊢
  have hO := open_tells k hk hk2 D W (by omega) (by omega)
  have hOr := ropen_tells k hk hk2 D W (by omega) (by omega)
  obtain ⟨o1, o2, o3, o4⟩ := outO_len D W (by omega) (by omega)
  generalize outO D W (opn D W) = p at hO hOr o1 o2 o3 o4
  obtain ⟨p1, p2, p3, p4, p5, p6, p7, p8⟩ := p
  simp only at o1 o2 o3 o4
  have hl := rlike_self k hk hk2 p1 p2 p3 p4 p5 p6 p7 (by omega) (by omega) (by omega) (by omega)
  simp only
  rw [hO, Option.bind_some, hOr, Option.bind_some]
  simp only
  rw [if_pos trivial, hl, Option.bind_some, if_pos rfl, hR, Option.bind_some, hRr, Option.bind_some, if_pos rfl, hal, Option.bind_some, if_pos rfl]
  exact hfm
end Go.Proofs.Ytipeglbeongfmaa.Pure
