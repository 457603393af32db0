/- PackNumbers: for any whole number and any text, the number's bytes, and the number at the text's beginning, are as the reference says, or refused; no further condition. -/
import Derived.Test.YtacenfolbmdpoaaPPackNumbersx3
namespace Go.Proofs.Ytacenfolbmdpoaa.Pure
open Go.RowKit Go.Proofs.Ytacenfolbmdpoaa.PPackNumbers Go.Proofs.YtacenfolbmdpoaaW.PrintWords Go.Proofs.YtacenfolbmdpoaaW.PrintLast Go.Proofs.YtacenfolbmdpoaaW.PrintMore
theorem ba_toList_loop (a : ByteArray) : ∀ (d i : Nat) (r : List UInt8), a.size - i = d → ByteArray.toList.loop a i r = r.reverse ++ a.data.toList.drop i := by
  intro d
  induction d with
  | zero =>
    intro i r h
    unfold ByteArray.toList.loop
    have h1 : ¬ i < a.size := by omega
    rw [if_neg h1, List.drop_eq_nil_of_le (by show a.data.toList.length ≤ i; rw [Array.length_toList]; exact Nat.le_of_not_lt h1), List.append_nil]
  | succ d ih =>
    intro i r h
    unfold ByteArray.toList.loop
    have h1 : i < a.size := by omega
    have h2 : i < a.data.toList.length := by rw [Array.length_toList]; exact h1
    rw [if_pos h1, ih (i + 1) _ (by omega), List.reverse_cons, List.append_assoc, List.drop_eq_getElem_cons h2]
    have h3 : a.get! i = a.data.toList[i] := by
      show a.data[i]! = _
      rw [getElem!_pos a.data i h1]
      rfl
    rw [h3]
    rfl
theorem ba_toList (a : ByteArray) : a.toList = a.data.toList := by
  unfold ByteArray.toList
  rw [ba_toList_loop a a.size 0 [] (by omega)]
  rfl
theorem wf64 {a : Int} (h : (Lit.int .i64 a).wf = true) : -9223372036854775808 ≤ a ∧ a ≤ 9223372036854775807 := by
  simpa [Lit.wf, IntKind.min, IntKind.max, IntKind.signed, IntKind.bits] using h
theorem wrap64_id {a : Int} (h : -9223372036854775808 ≤ a) (h' : a ≤ 9223372036854775807) : wrap64 a = a := by
  unfold wrap64
  omega
theorem u64_wrap (x : Int) : IntKind.u64.wrap x = x % 18446744073709551616 := by simp [IntKind.wrap, IntKind.bits, IntKind.signed]
theorem may_tells (a : Int) : pack_may.f a = some (decide (-1152921504606846976 ≤ a ∧ a ≤ 1152921504606846976)) := by
  unfold pack_may.f
  split <;> simp <;> omega
theorem alive_tells (k : Nat) : tarrylaw01_alive.f (k + 5) = some true := by
  simp only [tarrylaw01_alive.f, pack_Number.f, may_tells, Option.bind_some]
  simp [pack_Number.j0, pack_Number.l0, wrap64, ba_toList, strOfNums]
/-- The bytes of a number, by sevens, the lowest first. -/
def digs : Nat → Int → List Int
  | 0, x => [x]
  | n + 1, x => if x ≥ 128 then (x % 128 + 128) :: digs n (x / 128) else [x]

theorem number_loop (n : Nat) : ∀ (k : Nat) (x : Int) (acc : List Int), 0 ≤ x → x < 128 * 128 ^ n → x ≤ 9223372036854775807 → acc.length + n ≤ 100 →
    pack_Number.l0 (k + n + 1) x acc = some (strOfNums (acc ++ digs n x), 0) := by
  induction n with
  | zero =>
    intro k x acc h0 h1 h2 h3
    rw [pack_Number.l0]
    have h1' : x < 128 := by simpa using h1
    rw [if_neg (by omega), if_pos (by omega)]
    have e : x % 256 = x := by omega
    rw [e]
    rfl
  | succ n ih =>
    intro k x acc h0 h1 h2 h3
    rw [show k + (n + 1) + 1 = (k + n + 1) + 1 by omega, pack_Number.l0]
    by_cases h : x ≥ 128
    · have t1 : Int.tmod x 128 = x % 128 := Int.tmod_eq_emod_of_nonneg h0
      have t2 : Int.tdiv x 128 = x / 128 := Int.tdiv_eq_ediv_of_nonneg h0
      have t3 : wrap64 (x / 128) = x / 128 := wrap64_id (by omega) (by omega)
      have t4 : wrap64 (x % 128 + 128) % 256 = x % 128 + 128 := by rw [wrap64_id (by omega) (by omega)]; omega
      rw [if_pos h, if_pos (by omega), t1, t2, t3, t4]
      have hp : (128 : Int) ^ (n + 1) = 128 ^ n * 128 := Int.pow_succ ..
      rw [ih k (x / 128) _ (by omega) (by omega) (by omega) (by simp; omega)]
      rw [digs, if_pos h, List.append_assoc]
      rfl
    · rw [if_neg h, if_pos (by omega), digs, if_neg h]
      have e : x % 256 = x := by omega
      rw [e]

/-- What a number is as a whole number without a sign. -/
def zig (a : Int) : Int := if a < 0 then -2 * a - 1 else 2 * a

theorem number_tells (k : Nat) (a : Int) : pack_Number.f (k + 11) a =
    some (if -1152921504606846976 ≤ a ∧ a ≤ 1152921504606846976 then (strOfNums (digs 8 (zig a)), 0) else ((⟨#[]⟩ : ByteArray), 1)) := by
  simp only [pack_Number.f, may_tells, Option.bind_some, decide_eq_true_eq]
  by_cases h : -1152921504606846976 ≤ a ∧ a ≤ 1152921504606846976
  · rw [if_pos h, if_pos h]
    have hz : 0 ≤ zig a ∧ zig a ≤ 2305843009213693952 := by unfold zig; split <;> omega
    have hl := number_loop 8 (k + 1) (zig a) [] hz.1 (by omega) (by omega) (by simp)
    rw [List.nil_append] at hl
    by_cases h0 : a < 0
    · have e : wrap64 (wrap64 (-2 * a) - 1) = zig a := by rw [wrap64_id (a := -2 * a) (by omega) (by omega), wrap64_id (by omega) (by omega)]; unfold zig; rw [if_pos h0]
      rw [if_pos h0, e, pack_Number.j0, hl]
    · have e : wrap64 (2 * a) = zig a := by rw [wrap64_id (by omega) (by omega)]; unfold zig; rw [if_neg h0]
      rw [if_neg h0, e, pack_Number.j0, hl]
  · rw [if_neg h, if_neg h]

theorem digs_pos (n : Nat) (x : Int) : 1 ≤ (digs n x).length := by
  cases n <;> simp [digs]
  split <;> simp
theorem digs_mono (n : Nat) : ∀ x y : Int, 0 ≤ x → x ≤ y → (digs n x).length ≤ (digs n y).length := by
  induction n with
  | zero => intros; simp [digs]
  | succ n ih =>
    intro x y h0 h
    rw [digs, digs]
    by_cases h1 : x ≥ 128
    · rw [if_pos h1, if_pos (by omega)]
      have := ih (x / 128) (y / 128) (by omega) (by omega)
      simp only [List.length_cons]
      omega
    · rw [if_neg h1]
      have := digs_pos (n + 1) y
      rw [digs] at this
      simpa using this
theorem digs_next (n : Nat) : ∀ x : Int, 0 ≤ x → (digs n (x + 1)).length ≤ (digs n x).length + 1 := by
  induction n with
  | zero => intros; simp [digs]
  | succ n ih =>
    intro x h0
    rw [digs, digs]
    by_cases h1 : x ≥ 128
    · rw [if_pos h1, if_pos (by omega)]
      simp only [List.length_cons]
      by_cases h2 : x % 128 = 127
      · have e : (x + 1) / 128 = x / 128 + 1 := by omega
        rw [e]
        have := ih (x / 128) (by omega)
        omega
      · have e : (x + 1) / 128 = x / 128 := by omega
        rw [e]
        omega
    · rw [if_neg h1]
      by_cases h2 : x + 1 ≥ 128
      · rw [if_pos h2]
        have e : (x + 1) / 128 = 1 := by omega
        rw [e]
        cases n <;> simp [digs]
      · rw [if_neg h2]
        simp
/-- The number of the first so many bytes, by sevens. -/
def rdv (s : ByteArray) : Nat → Int
  | 0 => 0
  | i + 1 => rdv s i + bt s i % 128 * 128 ^ i
/-- A number out of one without a sign. -/
def zag (x : Int) : Int := if x % 2 = 1 then -(x / 2) - 1 else x / 2
/-- What is read where the last byte is that of place i. -/
def rdFin (s : ByteArray) (i : Nat) : Int × ByteArray × Int :=
  if (bt s i = 0 ∧ 0 < i) ∨ ¬ (-1152921504606846976 ≤ zag (rdv s (i + 1)) ∧ zag (rdv s (i + 1)) ≤ 1152921504606846976) then (0, ⟨#[]⟩, 5) else (zag (rdv s (i + 1)), s.extract (i + 1) s.size, 0)
def rdGo (s : ByteArray) : Nat → Nat → Int × ByteArray × Int
  | 0, _ => if s.size ≥ 9 then (0, ⟨#[]⟩, 3) else (0, ⟨#[]⟩, 4)
  | f + 1, i => if i < s.size then (if bt s i ≥ 128 then rdGo s f (i + 1) else rdFin s i) else (if s.size ≥ 9 then (0, ⟨#[]⟩, 3) else (0, ⟨#[]⟩, 4))

theorem rdv_range (s : ByteArray) : ∀ i, 0 ≤ rdv s i ∧ rdv s i < 128 ^ i
  | 0 => by simp [rdv]
  | i + 1 => by
    have h := rdv_range s i
    have hp : (128 : Int) ^ (i + 1) = 128 * 128 ^ i := by rw [Int.pow_succ, Int.mul_comm]
    have hb := bt_range s i
    have h1 : 0 ≤ bt s i % 128 * 128 ^ i := Int.mul_nonneg (by omega) (by omega)
    have h2 : bt s i % 128 * 128 ^ i ≤ 127 * 128 ^ i := Int.mul_le_mul_of_nonneg_right (by omega) (by omega)
    rw [rdv, hp]
    omega
theorem pow128_le {i j : Nat} (h : i ≤ j) : (128 : Int) ^ i ≤ 128 ^ j := by
  obtain ⟨d, rfl⟩ := Nat.le.dest h
  induction d with
  | zero => exact Int.le_refl _
  | succ d ih =>
    have := ih (by omega)
    have hp : (128 : Int) ^ (i + (d + 1)) = 128 ^ (i + d) * 128 := Int.pow_succ ..
    have h0 : (0 : Int) < 128 ^ (i + d) := Int.pow_pos (by decide)
    omega
theorem rdv_small (s : ByteArray) (i : Nat) (h : i ≤ 9) : 0 ≤ rdv s i ∧ rdv s i ≤ 9223372036854775807 := by
  have h1 := rdv_range s i
  have h2 := pow128_le h
  have : (128 : Int) ^ 9 = 9223372036854775808 := by decide +kernel
  omega

theorem or_add (x c : Int) (i : Nat) (hi : i ≤ 8) (hx : 0 ≤ x) (hx2 : x < 128 ^ i) (hc : 0 ≤ c) (hc2 : c < 128) :
    Go.bits .or .i64 x (shl .i64 c (wrap64 (7 * (i : Int)))) = x + c * 128 ^ i := by
  have e1 : wrap64 (7 * (i : Int)) = 7 * i := wrap64_id (by omega) (by omega)
  have e2 : (7 * (i : Int)).toNat = 7 * i := by omega
  have e3 : (2 : Int) ^ (7 * i) = 128 ^ i := by rw [Int.pow_mul]; rfl
  have hp := pow128_le hi
  have h8 : (128 : Int) ^ 8 = 72057594037927936 := by decide +kernel
  have h0 : (0 : Int) < 128 ^ i := Int.pow_pos (by decide)
  have hcc : c * 128 ^ i ≤ 127 * 128 ^ i := Int.mul_le_mul_of_nonneg_right (by omega) (by omega)
  have hcn : 0 ≤ c * 128 ^ i := Int.mul_nonneg hc (by omega)
  have e4 : shl .i64 c (wrap64 (7 * (i : Int))) = c * 128 ^ i := by
    unfold shl
    rw [e1, e2, show min (7 * i) IntKind.i64.bits = 7 * i from Nat.min_eq_left (by show 7 * i ≤ 64; omega), e3, IntKind.wrap_i64]
    omega
  rw [e4]
  obtain ⟨a, rfl⟩ := Int.eq_ofNat_of_zero_le hx
  obtain ⟨d, rfl⟩ := Int.eq_ofNat_of_zero_le hc
  have ha : a < 128 ^ i := by exact_mod_cast hx2
  have hq : ((d : Int) * 128 ^ i) = ((2 ^ (7 * i) * d : Nat) : Int) := by
    rw [Int.natCast_mul, Int.mul_comm]
    congr 1
    rw [← e3]
    exact (Int.natCast_pow 2 (7 * i)).symm
  have h128 : (128 : Nat) ^ i = 2 ^ (7 * i) := by rw [Nat.pow_mul]
  rw [hq]
  have ha2 : a < 2 ^ 63 := by omega
  have hd2 : 2 ^ (7 * i) * d < 2 ^ 63 := by omega
  rw [(bits_nat .i64 63 (by decide) (by intro n h h'; rw [IntKind.wrap_i64]; omega) a _ ha2 hd2).2, Nat.or_comm, ← Nat.two_pow_add_eq_or_of_lt (by rw [← h128]; exact ha) d]
  omega

theorem fin_odd (x : Int) (hx : 0 ≤ x) (hx2 : x ≤ 9223372036854775807) (h : Int.tmod x 2 = 1) : wrap64 ((wrap64 (-(wrap64 (Int.tdiv x 2)))) - 1) = zag x := by
  rw [Int.tmod_eq_emod_of_nonneg hx] at h
  rw [Int.tdiv_eq_ediv_of_nonneg hx, wrap64_id (a := x / 2) (by omega) (by omega), wrap64_id (a := -(x / 2)) (by omega) (by omega), wrap64_id (a := -(x / 2) - 1) (by omega) (by omega)]
  unfold zag
  rw [if_pos h]
theorem fin_even (x : Int) (hx : 0 ≤ x) (hx2 : x ≤ 9223372036854775807) (h : ¬ Int.tmod x 2 = 1) : wrap64 (Int.tdiv x 2) = zag x := by
  rw [Int.tmod_eq_emod_of_nonneg hx] at h
  rw [Int.tdiv_eq_ediv_of_nonneg hx, wrap64_id (a := x / 2) (by omega) (by omega)]
  unfold zag
  rw [if_neg h]

theorem read_fin (s : ByteArray) (i : Nat) (n : Int) (hi : i < s.size) (h9 : i ≤ 8) :
    (if bt s i = 0 then (if (i : Int) > 0 then some ((0 : Int), (⟨#[]⟩ : ByteArray), (5 : Int)) else ((pack_may.f n).bind fun t108 => (if t108 = true then (if 0 ≤ (wrap64 ((i : Int) + 1)) then (if (wrap64 ((i : Int) + 1)) ≤ (s.size : Int) then (some (n, s.extract ((wrap64 ((i : Int) + 1)) : Int).toNat s.size, 0)) else (none)) else (none)) else (some (0, (⟨#[]⟩ : ByteArray), 5))))) else ((pack_may.f n).bind fun t109 => (if t109 = true then (if 0 ≤ (wrap64 ((i : Int) + 1)) then (if (wrap64 ((i : Int) + 1)) ≤ (s.size : Int) then (some (n, s.extract ((wrap64 ((i : Int) + 1)) : Int).toNat s.size, 0)) else (none)) else (none)) else (some (0, (⟨#[]⟩ : ByteArray), 5)))))
    = some (if (bt s i = 0 ∧ 0 < i) ∨ ¬ (-1152921504606846976 ≤ n ∧ n ≤ 1152921504606846976) then (0, ⟨#[]⟩, 5) else (n, s.extract (i + 1) s.size, 0)) := by
  have e : wrap64 ((i : Int) + 1) = ((i + 1 : Nat) : Int) := by rw [wrap64_id (by omega) (by omega)]; rfl
  simp only [may_tells, Option.bind_some, e, Int.toNat_natCast, decide_eq_true_eq]
  have p1 : (0 : Int) ≤ ((i + 1 : Nat) : Int) := by omega
  have p2 : ((i + 1 : Nat) : Int) ≤ (s.size : Int) := by omega
  simp only [if_pos p1, if_pos p2]
  by_cases h1 : bt s i = 0 <;> by_cases h2 : 0 < i <;> by_cases h3 : -1152921504606846976 ≤ n ∧ n ≤ 1152921504606846976 <;> simp [h1, h2, h3]

theorem read_loop (s : ByteArray) (hs : s.size ≤ 140737488351232) (f : Nat) : ∀ (k i : Nat), i + f = 9 →
    pack_ReadNumber.l0 (k + f + 1) s (rdv s i) (mn (s.size : Int) 9) i = some (rdGo s f i) := by
  have stop : ∀ (i : Nat), ((i : Int) < mn (s.size : Int) 9 ↔ i < s.size ∧ i < 9) := fun i => by unfold mn; split <;> omega
  have hfin : ∀ m : Nat, (if (s.size : Int) ≥ 9 then (some ((0 : Int), (⟨#[]⟩ : ByteArray), (3 : Int))) else (some (0, (⟨#[]⟩ : ByteArray), 4))) = some (if s.size ≥ 9 then (0, ⟨#[]⟩, 3) else (0, ⟨#[]⟩, 4)) := fun m => by
    by_cases h : s.size ≥ 9
    · rw [if_pos h, if_pos (by omega)]
    · rw [if_neg h, if_neg (by omega)]
  induction f with
  | zero =>
    intro k i hi
    rw [pack_ReadNumber.l0, if_neg (by rw [stop]; omega), rdGo]
    exact hfin 0
  | succ f ih =>
    intro k i hi
    rw [show k + (f + 1) + 1 = (k + f + 1) + 1 by omega, pack_ReadNumber.l0, rdGo]
    by_cases h : i < s.size
    · have hm : (i : Int) < mn (s.size : Int) 9 := (stop i).2 ⟨h, by omega⟩
      have h0 : (0 : Int) ≤ (i : Int) := by omega
      have h1 : (i : Int) < (s.size : Int) := by omega
      have hb := bt_range s i
      have hr := rdv_range s i
      have hv := rdv_small s (i + 1) (by omega)
      have hf := read_fin s i (zag (rdv s (i + 1))) h (by omega)
      have ho2 := or_add (rdv s i) (bt s i % 128) i (by omega) hr.1 hr.2 (by omega) (by omega)
      have w1 : wrap64 (bt s i) = bt s i := wrap64_id (by omega) (by omega)
      have w2 : Int.tmod (bt s i) 128 = bt s i % 128 := Int.tmod_eq_emod_of_nonneg hb.1
      have w3 : (0 : Int) ≤ wrap64 (7 * (i : Int)) := (wrap64_id (a := 7 * (i : Int)) (by clear w1 ho2 hf; omega) (by clear w1 ho2 hf; omega)).symm ▸ Int.mul_nonneg (by decide) h0
      have w4 : wrap64 ((i : Int) + 1) = ((i + 1 : Nat) : Int) := (wrap64_id (by clear w1 w3 ho2 hf; omega) (by clear w1 w3 ho2 hf; omega)).trans (by rfl)
      have hstep : rdv s i + bt s i % 128 * 128 ^ i = rdv s (i + 1) := rfl
      rw [if_pos h]
      refine (if_pos hm).trans ((if_pos h0).trans ((if_pos h1).trans ((if_pos w3).trans ?_)))
      simp only [w1, w2]
      rw [ho2, hstep]
      by_cases hc : bt s i ≥ 128
      · rw [if_pos hc, if_pos hc, w4]
        exact ih k (i + 1) (by clear w1 w3 w4 ho2 hf; omega)
      · rw [if_neg hc, if_neg hc]
        by_cases ho : Int.tmod (rdv s (i + 1)) 2 = 1
        · refine (if_pos ho).trans ?_
          rw [fin_odd _ hv.1 hv.2 ho]
          exact hf
        · refine (if_neg ho).trans ?_
          rw [fin_even _ hv.1 hv.2 ho]
          exact hf
    · have hm : ¬ ((i : Int) < mn (s.size : Int) 9) := by rw [stop]; omega
      rw [if_neg h]
      refine (if_neg hm).trans ?_
      exact hfin 0

theorem read_tells (s : ByteArray) (hs : s.size ≤ 140737488351232) (k : Nat) : pack_ReadNumber.f (k + 10) s = some (rdGo s 9 0) :=
  read_loop s hs 9 k 0 rfl
theorem ref_may_tells (a : Int) : tarryref01_May.f a = some (decide (-1152921504606846976 ≤ a ∧ a ≤ 1152921504606846976)) := by
  unfold tarryref01_May.f
  split <;> simp <;> omega

theorem ref_number_loop (n : Nat) : ∀ (k : Nat) (x : Int) (acc : List Int), 0 ≤ x → x < 128 * 128 ^ n → x ≤ 9223372036854775807 → acc.length + n ≤ 100 →
    tarryref01_Number.l0 (k + n + 1) x acc = some (strOfNums (acc ++ digs n x)) := by
  induction n with
  | zero =>
    intro k x acc h0 h1 h2 h3
    rw [tarryref01_Number.l0]
    have h1' : x < 128 := by simpa using h1
    rw [if_neg (by omega), if_pos (by omega)]
    have e : x % 256 = x := by omega
    rw [e]
    rfl
  | succ n ih =>
    intro k x acc h0 h1 h2 h3
    rw [show k + (n + 1) + 1 = (k + n + 1) + 1 by omega, tarryref01_Number.l0]
    by_cases h : x ≥ 128
    · have t1 : Int.tmod x 128 = x % 128 := Int.tmod_eq_emod_of_nonneg h0
      have t2 : Int.tdiv x 128 = x / 128 := Int.tdiv_eq_ediv_of_nonneg h0
      have t3 : wrap64 (x / 128) = x / 128 := wrap64_id (by omega) (by omega)
      have t4 : wrap64 (128 + x % 128) % 256 = x % 128 + 128 := by rw [wrap64_id (by clear t3; omega) (by clear t3; omega)]; clear t3; omega
      have hx : x > 127 := by clear t3 t4; omega
      have hl : acc.length < 140737488355328 := by clear t3 t4; omega
      rw [if_pos hx, if_pos hl, t1, t2, t3, t4]
      have hp : (128 : Int) ^ (n + 1) = 128 ^ n * 128 := Int.pow_succ ..
      clear t3 t4
      rw [ih k (x / 128) _ (by omega) (by omega) (by omega) (by simp; omega)]
      rw [digs, if_pos h, List.append_assoc]
      rfl
    · rw [if_neg (by omega), if_pos (by omega), digs, if_neg h]
      have e : x % 256 = x := by omega
      rw [e]

theorem ref_number_tells (k : Nat) (a : Int) (h : -1152921504606846976 ≤ a ∧ a ≤ 1152921504606846976) : tarryref01_Number.f (k + 11) a = some (strOfNums (digs 8 (zig a))) := by
  have hz : 0 ≤ zig a ∧ zig a ≤ 2305843009213693952 := by unfold zig; split <;> omega
  have hl := ref_number_loop 8 (k + 1) (zig a) [] hz.1 (by omega) (by omega) (by simp)
  rw [List.nil_append] at hl
  unfold tarryref01_Number.f
  by_cases h0 : a ≥ 0
  · have e : wrap64 (2 * a) = zig a := by rw [wrap64_id (by omega) (by omega)]; unfold zig; rw [if_neg (by omega)]
    rw [if_pos h0, e, tarryref01_Number.j0, hl]
  · have e1 : wrap64 (-a) = -a := wrap64_id (by omega) (by omega)
    have e2 : wrap64 (2 * -a) = 2 * -a := wrap64_id (by clear e1; omega) (by clear e1; omega)
    have e3 : wrap64 (2 * -a - 1) = zig a := by clear e1 e2; rw [wrap64_id (by omega) (by omega)]; unfold zig; rw [if_pos (by omega)]; omega
    rw [if_neg h0, e1, e2, e3, tarryref01_Number.j0, hl]
theorem ref_read_fin (s : ByteArray) (i : Nat) (n : Int) (hi : i < s.size) (h9 : i ≤ 8) :
    (if 0 ≤ (i : Int) then (if (i : Int) < (s.size : Int) then (if bt s i = 0 then (if (i : Int) > 0 then some ((0 : Int), (⟨#[]⟩ : ByteArray), (5 : Int)) else ((tarryref01_May.f n).bind fun t108 => (if t108 = true then (if 0 ≤ (wrap64 ((i : Int) + 1)) then (if (wrap64 ((i : Int) + 1)) ≤ (s.size : Int) then (some (n, s.extract ((wrap64 ((i : Int) + 1)) : Int).toNat s.size, 0)) else (none)) else (none)) else (some (0, (⟨#[]⟩ : ByteArray), 5))))) else ((tarryref01_May.f n).bind fun t109 => (if t109 = true then (if 0 ≤ (wrap64 ((i : Int) + 1)) then (if (wrap64 ((i : Int) + 1)) ≤ (s.size : Int) then (some (n, s.extract ((wrap64 ((i : Int) + 1)) : Int).toNat s.size, 0)) else (none)) else (none)) else (some (0, (⟨#[]⟩ : ByteArray), 5))))) else none) else none)
    = some (if (bt s i = 0 ∧ 0 < i) ∨ ¬ (-1152921504606846976 ≤ n ∧ n ≤ 1152921504606846976) then (0, ⟨#[]⟩, 5) else (n, s.extract (i + 1) s.size, 0)) := by
  have h0 : (0 : Int) ≤ (i : Int) := by omega
  have h1 : (i : Int) < (s.size : Int) := by omega
  refine (if_pos h0).trans ((if_pos h1).trans ?_)
  have e : wrap64 ((i : Int) + 1) = ((i + 1 : Nat) : Int) := by rw [wrap64_id (by omega) (by omega)]; rfl
  simp only [ref_may_tells, Option.bind_some, e, Int.toNat_natCast, decide_eq_true_eq]
  have p1 : (0 : Int) ≤ ((i + 1 : Nat) : Int) := by omega
  have p2 : ((i + 1 : Nat) : Int) ≤ (s.size : Int) := by omega
  simp only [if_pos p1, if_pos p2]
  by_cases h1 : bt s i = 0 <;> by_cases h2 : 0 < i <;> by_cases h3 : -1152921504606846976 ≤ n ∧ n ≤ 1152921504606846976 <;> simp [h1, h2, h3]

/-- Horner, from the last byte down. -/
theorem ref_read_l1 (s : ByteArray) (last : Nat) (hl : last < s.size) (h9 : last ≤ 8) (m : Nat) : ∀ (k : Nat) (y : Int), m ≤ last + 1 → 0 ≤ y → y * 128 ^ m + rdv s m = rdv s (last + 1) →
    tarryref01_ReadNumber.l1 (k + m + 1) s last y ((m : Int) - 1) = some (rdFin s last) := by
  induction m with
  | zero =>
    intro k y hm hy he
    have e : y = rdv s (last + 1) := by simpa [rdv] using he
    have hv := rdv_small s (last + 1) (by omega)
    have hneg : ¬ (((0 : Nat) : Int) - 1 ≥ 0) := by omega
    rw [tarryref01_ReadNumber.l1]
    refine (if_neg hneg).trans ?_
    rw [e]
    have hf := ref_read_fin s last (zag (rdv s (last + 1))) hl h9
    by_cases ho : Int.tmod (rdv s (last + 1)) 2 = 1
    · refine (if_pos ho).trans ?_
      rw [fin_odd _ hv.1 hv.2 ho]
      exact hf
    · refine (if_neg ho).trans ?_
      rw [fin_even _ hv.1 hv.2 ho]
      exact hf
  | succ m ih =>
    intro k y hm hy he
    have hv := rdv_small s (last + 1) (by omega)
    have hb := bt_range s m
    have hr := rdv_range s m
    have hp : (128 : Int) ^ (m + 1) = 128 * 128 ^ m := by rw [Int.pow_succ, Int.mul_comm]
    have h0 : (1 : Int) ≤ 128 ^ m := Int.pow_pos (by decide)
    have hrs : rdv s (m + 1) = rdv s m + bt s m % 128 * 128 ^ m := rfl
    have he2 : (128 * y + bt s m % 128) * 128 ^ m + rdv s m = rdv s (last + 1) := by
      rw [← he, hp, hrs, Int.add_mul]
      have : 128 * y * 128 ^ m = y * (128 * 128 ^ m) := by rw [Int.mul_comm 128 y, Int.mul_assoc]
      omega
    have hz : 128 * y + bt s m % 128 ≤ (128 * y + bt s m % 128) * 128 ^ m := by
      have := Int.mul_le_mul_of_nonneg_left h0 (show 0 ≤ 128 * y + bt s m % 128 by omega)
      omega
    have hi : ((m + 1 : Nat) : Int) - 1 = (m : Int) := by omega
    have c1 : (m : Int) ≥ 0 := by omega
    have c2 : 0 ≤ (m : Int) := by omega
    have c3 : (m : Int) < (s.size : Int) := by omega
    have w1 : Int.tmod (bt s m) 128 = bt s m % 128 := Int.tmod_eq_emod_of_nonneg hb.1
    have b1 : -9223372036854775808 ≤ 128 * y ∧ 128 * y ≤ 9223372036854775807 := by omega
    have b2 : -9223372036854775808 ≤ bt s m % 128 ∧ bt s m % 128 ≤ 9223372036854775807 := by omega
    have b3 : -9223372036854775808 ≤ 128 * y + bt s m % 128 ∧ 128 * y + bt s m % 128 ≤ 9223372036854775807 := by omega
    have b4 : -9223372036854775808 ≤ (m : Int) - 1 ∧ (m : Int) - 1 ≤ 9223372036854775807 := by omega
    have w2 := wrap64_id b1.1 b1.2
    have w3 := wrap64_id b2.1 b2.2
    have w4 := wrap64_id b3.1 b3.2
    have w5 := wrap64_id b4.1 b4.2
    have hn := ih k (128 * y + bt s m % 128) (by omega) (by clear w2 w3 w4 w5; omega) he2
    rw [show k + (m + 1) + 1 = (k + m + 1) + 1 by omega, hi, tarryref01_ReadNumber.l1]
    refine (if_pos c1).trans ((if_pos c2).trans ((if_pos c3).trans ?_))
    rw [w1, w2, w3, w4, w5]
    exact hn

theorem ref_read_j2 (s : ByteArray) (last : Nat) (hl : last < s.size) (h9 : last ≤ 8) (k : Nat) (hk : 20 ≤ k) : tarryref01_ReadNumber.j2 k s last false = some (rdFin s last) := by
  obtain ⟨m, rfl⟩ : ∃ m, k = (m + (last + 1) + 1) + 1 := ⟨k - (last + 3), by omega⟩
  have h := ref_read_l1 s last hl h9 (last + 1) m 0 (Nat.le_refl _) (Int.le_refl 0) (by rw [Int.zero_mul, Int.zero_add])
  have e : ((last + 1 : Nat) : Int) - 1 = (last : Int) := by omega
  have c : ¬ ((last : Int) < 0) := by omega
  rw [e] at h
  rw [tarryref01_ReadNumber.j2, if_neg (by decide), if_neg c]
  exact h

theorem ref_read_found (s : ByteArray) (last : Nat) (hl : last < s.size) (h9 : last ≤ 8) (f : Nat) : ∀ (k i : Nat), i + f = 9 → 22 + 2 * f ≤ k →
    tarryref01_ReadNumber.l0 k s last i = some (rdFin s last) := by
  have c : ¬ ((last : Int) < 0) := by omega
  have stop : ∀ (k : Nat) (i : Int), 21 ≤ k → tarryref01_ReadNumber.j1 k s last i false = some (rdFin s last) := by
    intro k i hk
    obtain ⟨k, rfl⟩ : ∃ m, k = m + 1 := ⟨k - 1, by omega⟩
    rw [tarryref01_ReadNumber.j1, if_neg (by decide), if_neg c]
    exact ref_read_j2 s last hl h9 k (by omega)
  induction f with
  | zero =>
    intro k i hi hk
    obtain ⟨k, rfl⟩ : ∃ m, k = m + 1 := ⟨k - 1, by omega⟩
    have e : decide ((i : Int) < 9) = false := decide_eq_false (by omega)
    rw [tarryref01_ReadNumber.l0, e]
    split <;> exact stop k i (by omega)
  | succ f ih =>
    intro k i hi hk
    obtain ⟨k, rfl⟩ : ∃ m, k = m + 1 + 1 := ⟨k - 2, by omega⟩
    have e : decide ((i : Int) < 9) = true := decide_eq_true (by omega)
    have hn := ih k (i + 1) (by omega) (by omega)
    have w : wrap64 ((i : Int) + 1) = ((i + 1 : Nat) : Int) := (wrap64_id (by omega) (by omega)).trans (by rfl)
    rw [tarryref01_ReadNumber.l0, e]
    split
    · rw [tarryref01_ReadNumber.j1, if_pos rfl, if_neg c, w]
      exact hn
    · exact stop (k + 1) i (by clear w; omega)

theorem ref_read_loop (s : ByteArray) (hs : s.size ≤ 140737488351232) (f : Nat) : ∀ (k i : Nat), i + f = 9 → 50 + 2 * f ≤ k →
    tarryref01_ReadNumber.l0 k s (-1) i = some (rdGo s f i) := by
  have stop : ∀ (k : Nat) (i : Int), 2 ≤ k → tarryref01_ReadNumber.j1 k s (-1) i false = some (if s.size ≥ 9 then (0, ⟨#[]⟩, 3) else (0, ⟨#[]⟩, 4)) := by
    intro k i hk
    obtain ⟨k, rfl⟩ : ∃ m, k = m + 1 + 1 := ⟨k - 2, by omega⟩
    rw [tarryref01_ReadNumber.j1, if_neg (by decide), if_pos (by decide), tarryref01_ReadNumber.j2]
    by_cases h : s.size ≥ 9
    · rw [if_pos (decide_eq_true (by omega)), if_pos h]
    · rw [if_neg (by simp; omega), if_pos (by decide), if_neg h]
  induction f with
  | zero =>
    intro k i hi hk
    obtain ⟨k, rfl⟩ : ∃ m, k = m + 1 := ⟨k - 1, by omega⟩
    have e : decide ((i : Int) < 9) = false := decide_eq_false (by omega)
    rw [tarryref01_ReadNumber.l0, e, rdGo]
    split <;> exact stop k i (by omega)
  | succ f ih =>
    intro k i hi hk
    obtain ⟨k, rfl⟩ : ∃ m, k = m + 1 + 1 := ⟨k - 2, by omega⟩
    have e : decide ((i : Int) < 9) = true := decide_eq_true (by omega)
    have hn := ih k (i + 1) (by omega) (by omega)
    rw [tarryref01_ReadNumber.l0, e, rdGo]
    by_cases h : i < s.size
    · have h1 : (i : Int) < (s.size : Int) := by omega
      have h0 : 0 ≤ (i : Int) := by omega
      have hf := ref_read_found s i h (by omega) f k (i + 1) (by omega) (by omega)
      have w : wrap64 ((i : Int) + 1) = ((i + 1 : Nat) : Int) := (wrap64_id (by omega) (by omega)).trans (by rfl)
      rw [if_pos h1, if_pos h, tarryref01_ReadNumber.j1, if_pos rfl, if_pos (by decide), if_pos h0, if_pos h1, w]
      by_cases hc : bt s i < 128
      · rw [if_pos hc, if_neg (by clear w; omega)]
        exact hf
      · rw [if_neg hc, if_pos (by clear w; omega)]
        exact hn
    · have h1 : ¬ ((i : Int) < (s.size : Int)) := by omega
      rw [if_neg h1, if_neg h]
      exact stop (k + 1) i (by omega)

theorem ref_read_tells (s : ByteArray) (hs : s.size ≤ 140737488351232) (k : Nat) (hk : 68 ≤ k) : tarryref01_ReadNumber.f k s = some (rdGo s 9 0) :=
  ref_read_loop s hs 9 k 0 rfl (by omega)
theorem PackNumbers : tarrylaw01_PackNumbers.Pure := by
  intro a s wa hs
  have ha := wf64 wa
  refine ⟨100, ?_⟩
  have al : tarrylaw01_alive.f 100 = some true := alive_tells 95
  unfold tarrylaw01_PackNumbers.f
  rw [show (100 : Nat) = 89 + 11 by rfl, number_tells 89 a, show (89 + 11 : Nat) = 90 + 10 by rfl, read_tells s hs 90, ref_read_tells s hs _ (by omega), show (90 + 10 : Nat) = 100 by rfl]
  simp only [Option.bind_some, if_true, al, Bool.not_true, tarrylaw01_PackNumbers.j0, ref_may_tells, decide_eq_true_eq]
  by_cases h : -1152921504606846976 ≤ a ∧ a ≤ 1152921504606846976
  · simp only [if_pos h, if_true, Bool.false_eq_true, if_false]
    rw [show (99 : Nat) = 88 + 11 by rfl, ref_number_tells 88 a h]
    simp
  · simp only [if_neg h, if_true, Bool.false_eq_true, if_false]
    simp [ba_toList]

end Go.Proofs.Ytacenfolbmdpoaa.Pure
