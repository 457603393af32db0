/- Written by a program of this repo over the kit's print program: what the program's functions do, each as a Lean function, shown of the loaded code; or a statement's row over that; no condition of its own. -/
import Derived.Test.YtadmbihghbfdbaaPCheckBurstsx0
import Derived.Test.YtadmbihghbfdbaaPCheckBurstsx1
namespace Go.Proofs.Ytadmbihghbfdbaa.PCheckBursts
open Go.RowKit Go.Proofs.YtadmbihghbfdbaaW.PrintWords Go.Proofs.YtadmbihghbfdbaaW.PrintLast Go.Proofs.YtadmbihghbfdbaaW.PrintMore
attribute [local go_sem] max2_int min2_int max_two min_two max_three min_three max_four min_four   -- for this text's walks alone
set_option linter.unusedVariables false
set_option linter.unusedSimpArgs false

/-! ### the law CheckBursts (by hand) -/
theorem mn_le_left (a b : Int) : mn a b ≤ a := by unfold mn; split <;> omega
theorem mn_le_right (a b : Int) : mn a b ≤ b := by unfold mn; split <;> omega
theorem mn_nonneg {a b : Int} (h : 0 ≤ a) (h' : 0 ≤ b) : 0 ≤ mn a b := by unfold mn; split <;> omega
theorem fits_small {s : ByteArray} (h : s.size ≤ 1000000) : chk_fits s = true := by
  unfold chk_fits
  exact decide_eq_true (by omega)
/-- The xor of two, of 32 bits, in natural numbers. -/
theorem x32 (a b : Nat) (ha : a < 4294967296) (hb : b < 4294967296) : Go.bits .xor .u32 (a : Int) (b : Int) = ((a ^^^ b : Nat) : Int) := by
  have h : (a ^^^ b) < 4294967296 := Nat.xor_lt_two_pow (n := 32) ha hb
  simp only [Go.bits, IntKind.wrap_u32]
  have e1 : (BitVec.ofInt IntKind.u32.bits (a : Int) ^^^ BitVec.ofInt IntKind.u32.bits (b : Int)).toNat = a ^^^ b := by
    show (BitVec.ofInt 32 (a : Int) ^^^ BitVec.ofInt 32 (b : Int)).toNat = a ^^^ b
    rw [BitVec.toNat_xor]
    simp [BitVec.toNat_ofNat]
    rw [Nat.mod_eq_of_lt ha, Nat.mod_eq_of_lt hb]
  rw [e1]
  omega
theorem x8 (a b : Nat) (ha : a < 256) (hb : b < 256) : Go.bits .xor .u8 (a : Int) (b : Int) = ((a ^^^ b : Nat) : Int) := by
  have h : (a ^^^ b) < 256 := Nat.xor_lt_two_pow (n := 8) ha hb
  simp only [Go.bits, IntKind.wrap_u8]
  have e1 : (BitVec.ofInt IntKind.u8.bits (a : Int) ^^^ BitVec.ofInt IntKind.u8.bits (b : Int)).toNat = a ^^^ b := by
    show (BitVec.ofInt 8 (a : Int) ^^^ BitVec.ofInt 8 (b : Int)).toNat = a ^^^ b
    rw [BitVec.toNat_xor]
    simp [BitVec.toNat_ofNat]
    rw [Nat.mod_eq_of_lt ha, Nat.mod_eq_of_lt hb]
  rw [e1]
  omega
/-! The check, in natural numbers. -/
def cstp (c : Nat) : Nat := if c % 2 = 1 then (c / 2) ^^^ 2197175160 else c / 2
def cit : Nat → Nat → Nat
  | 0, c => c
  | n + 1, c => cstp (cit n c)
def bn (s : ByteArray) (i : Nat) : Nat := (s.data.toList.getD i 0).toNat
def cbyte (c b : Nat) : Nat := (c / 256) ^^^ cit 8 ((c % 256) ^^^ b)
def cupto (c : Nat) (s : ByteArray) : Nat → Nat
  | 0 => c
  | i + 1 => cbyte (cupto c s i) (bn s i)
theorem bn_lt (s : ByteArray) (i : Nat) : bn s i < 256 := UInt8.toNat_lt _
theorem bt_bn (s : ByteArray) (i : Nat) : bt s (i : Int) = (bn s i : Int) := by
  unfold bt bn
  have hl : s.data.toList.length = s.size := by rw [Array.length_toList]; rfl
  by_cases h : i < s.size
  · have h' : ((i : Int)).toNat < s.size := by simpa using h
    rw [dif_pos h']
    have h2 : i < s.data.toList.length := by omega
    simp [List.getD_eq_getElem?_getD, List.getElem?_eq_getElem h2]
    rfl
  · have h' : ¬ ((i : Int)).toNat < s.size := by simpa using h
    rw [dif_neg h']
    have h2 : s.data.toList.length ≤ i := by omega
    simp [List.getD_eq_getElem?_getD, List.getElem?_eq_none h2]
theorem cstp_lt (c : Nat) (h : c < 4294967296) : cstp c < 4294967296 := by
  unfold cstp
  split
  · exact Nat.xor_lt_two_pow (n := 32) (by omega) (by decide)
  · omega
theorem cit_lt (n c : Nat) (h : c < 4294967296) : cit n c < 4294967296 := by
  induction n with
  | zero => exact h
  | succ n ih => exact cstp_lt _ ih
theorem stp_n (c : Nat) (h : c < 4294967296) : chk_stp (c : Int) = (cstp c : Int) := by
  unfold chk_stp cstp
  by_cases hc : c % 2 = 1
  · rw [if_pos hc, if_pos (by omega)]
    have := x32 (c / 2) 2197175160 (by omega) (by decide)
    rw [← this]
    congr 1
  · rw [if_neg hc, if_neg (by omega)]
    omega
theorem it_n (n c : Nat) (h : c < 4294967296) : chk_it n (c : Int) = (cit n c : Int) := by
  induction n with
  | zero => rfl
  | succ n ih =>
    show chk_stp (chk_it n c) = (cstp (cit n c) : Int)
    rw [ih, stp_n _ (cit_lt n c h)]
theorem xor8_lt {a b : Nat} (ha : a < 256) (hb : b < 256) : a ^^^ b < 256 := Nat.xor_lt_two_pow (n := 8) ha hb
theorem cbyte_lt (c b : Nat) (h : c < 4294967296) (hb : b < 256) : cbyte c b < 4294967296 :=
  Nat.xor_lt_two_pow (n := 32) (by omega) (cit_lt _ _ (by have := xor8_lt (a := c % 256) (b := b) (by omega) hb; omega))
theorem byte_n (c b : Nat) (h : c < 4294967296) (hb : b < 256) : chk_byte (c : Int) (b : Int) = (cbyte c b : Int) := by
  unfold chk_byte cbyte
  have e1 : ((c : Int) % 256) = ((c % 256 : Nat) : Int) := by omega
  have e2 : ((c : Int) / 256) = ((c / 256 : Nat) : Int) := by omega
  have hx := xor8_lt (a := c % 256) (b := b) (by omega) hb
  rw [e1, e2, x8 _ _ (by omega) hb, it_n _ _ (by omega), x32 _ _ (by omega) (cit_lt _ _ (by omega))]
theorem cupto_lt (c : Nat) (s : ByteArray) (h : c < 4294967296) : ∀ i, cupto c s i < 4294967296
  | 0 => h
  | i + 1 => cbyte_lt _ _ (cupto_lt c s h i) (bn_lt s i)
theorem upto_n (c : Nat) (s : ByteArray) (h : c < 4294967296) : ∀ i, chk_upto (c : Int) s i = (cupto c s i : Int)
  | 0 => rfl
  | i + 1 => by
    show chk_byte (chk_upto (c : Int) s i) (bt s (i : Int)) = (cbyte (cupto c s i) (bn s i) : Int)
    rw [upto_n c s h i, bt_bn, byte_n _ _ (cupto_lt c s h i) (bn_lt s i)]
/-- The check of a text, on from another one. -/
def con (c : Nat) (s : ByteArray) : Nat := (cupto (c ^^^ 4294967295) s s.size) ^^^ 4294967295
theorem con_lt (c : Nat) (s : ByteArray) (h : c < 4294967296) : con c s < 4294967296 :=
  Nat.xor_lt_two_pow (n := 32) (cupto_lt _ _ (Nat.xor_lt_two_pow (n := 32) h (by decide)) _) (by decide)
theorem On_n (c : Nat) (s : ByteArray) (h : c < 4294967296) (hs : s.size ≤ 1000000) : check_On.f (c : Int) s = some (con c s : Int) := by
  have h1 : c ^^^ 4294967295 < 4294967296 := Nat.xor_lt_two_pow (n := 32) h (by decide)
  unfold check_On.f con
  rw [if_pos (fits_small hs)]
  have e1 : Go.bits .xor .u32 (c : Int) 4294967295 = ((c ^^^ 4294967295 : Nat) : Int) := x32 c 4294967295 h (by decide)
  rw [e1, upto_n _ _ h1]
  exact congrArg some (x32 _ 4294967295 (cupto_lt _ _ h1 _) (by decide))
theorem Of_n (s : ByteArray) (hs : s.size ≤ 1000000) : check_Of.f s = some (con 0 s : Int) := by
  unfold check_Of.f
  rw [show (0 : Int) = ((0 : Nat) : Int) from rfl, On_n 0 s (by decide) hs]
  rfl
theorem cupto_congr (c : Nat) (s t : ByteArray) : ∀ n, (∀ i, i < n → bn s i = bn t i) → cupto c s n = cupto c t n
  | 0, _ => rfl
  | n + 1, h => by
    show cbyte (cupto c s n) (bn s n) = cbyte (cupto c t n) (bn t n)
    rw [cupto_congr c s t n (fun i hi => h i (by omega)), h n (by omega)]
theorem cupto_add (c : Nat) (s t : ByteArray) (n : Nat) : ∀ m, (∀ i, i < m → bn s (n + i) = bn t i) → cupto c s (n + m) = cupto (cupto c s n) t m
  | 0, _ => rfl
  | m + 1, h => by
    show cbyte (cupto c s (n + m)) (bn s (n + m)) = cbyte (cupto (cupto c s n) t m) (bn t m)
    rw [cupto_add c s t n m (fun i hi => h i (by omega)), h m (by omega)]
theorem bn_left (s t : ByteArray) (i : Nat) (h : i < s.size) : bn (s ++ t) i = bn s i := by
  have h2 : i < s.data.toList.length := by rw [Array.length_toList]; exact h
  unfold bn
  rw [ByteArray.data_append, Array.toList_append, List.getD_eq_getElem?_getD, List.getElem?_append_left h2, ← List.getD_eq_getElem?_getD]
theorem bn_right (s t : ByteArray) (i : Nat) : bn (s ++ t) (s.size + i) = bn t i := by
  have h2 : s.data.toList.length = s.size := by rw [Array.length_toList]; rfl
  unfold bn
  rw [ByteArray.data_append, Array.toList_append, List.getD_eq_getElem?_getD, List.getElem?_append_right (by omega), h2, Nat.add_sub_cancel_left, ← List.getD_eq_getElem?_getD]
theorem con_app (c : Nat) (s t : ByteArray) : con (con c s) t = con c (s ++ t) := by
  unfold con
  have e : ∀ v : Nat, v ^^^ 4294967295 ^^^ 4294967295 = v := fun v => by rw [Nat.xor_assoc, Nat.xor_self, Nat.xor_zero]
  rw [e, ByteArray.size_append, cupto_add _ (s ++ t) t s.size t.size (fun i _ => bn_right s t i), cupto_congr _ (s ++ t) s s.size (fun i hi => bn_left s t i hi)]
theorem alive_f : tarrylaw02_alive.f = some true := by
  unfold tarrylaw02_alive.f
  rw [Of_n _ (by decide)]
  decide +kernel
theorem take_size (a : ByteArray) (n : Int) (h : n ≤ 200) : (a.extract 0 n.toNat).size ≤ 200 := by
  rw [ByteArray.size_extract]
  omega
/-! The check is linear. -/
theorem xor_half (x y : Nat) : (x ^^^ y) / 2 = x / 2 ^^^ y / 2 := by
  have h := Nat.shiftRight_xor_distrib (a := x) (b := y) (i := 1)
  simpa [Nat.shiftRight_eq_div_pow] using h
theorem xor_low (x y : Nat) : (x ^^^ y) % 2 = (x % 2 + y % 2) % 2 := by
  have h := Nat.xor_mod_two_pow (a := x) (b := y) (n := 1)
  simp only [Nat.pow_one] at h
  rw [h]
  rcases Nat.mod_two_eq_zero_or_one x with hx | hx <;> rcases Nat.mod_two_eq_zero_or_one y with hy | hy <;> rw [hx, hy] <;> rfl
theorem cstp_xor (x y : Nat) : cstp (x ^^^ y) = cstp x ^^^ cstp y := by
  unfold cstp
  rw [xor_low, xor_half]
  rcases Nat.mod_two_eq_zero_or_one x with hx | hx <;> rcases Nat.mod_two_eq_zero_or_one y with hy | hy <;> simp only [hx, hy] <;> simp
  · rw [Nat.xor_assoc]
  · rw [Nat.xor_assoc, Nat.xor_assoc, Nat.xor_comm (y / 2)]
  · rw [show (x / 2 ^^^ 2197175160) ^^^ (y / 2 ^^^ 2197175160) = (x / 2 ^^^ y / 2) ^^^ (2197175160 ^^^ 2197175160) by ac_rfl]
    simp
theorem cit_xor (n x y : Nat) : cit n (x ^^^ y) = cit n x ^^^ cit n y := by
  induction n with
  | zero => rfl
  | succ n ih =>
    show cstp (cit n (x ^^^ y)) = cstp (cit n x) ^^^ cstp (cit n y)
    rw [ih, cstp_xor]
theorem cit_front (n c : Nat) : cit n (cstp c) = cit (n + 1) c := by
  induction n with
  | zero => rfl
  | succ n ih =>
    show cstp (cit n (cstp c)) = cstp (cit (n + 1) c)
    rw [ih]
theorem cit_add (m n c : Nat) : cit m (cit n c) = cit (m + n) c := by
  induction m with
  | zero => rw [Nat.zero_add]; rfl
  | succ m ih =>
    rw [show m + 1 + n = (m + n) + 1 by omega]
    show cstp (cit m (cit n c)) = cstp (cit (m + n) c)
    rw [ih]
theorem cit_pow (n d : Nat) : cit n (2 ^ n * d) = d := by
  induction n generalizing d with
  | zero => simp [cit]
  | succ n ih =>
    rw [← cit_front]
    have e : cstp (2 ^ (n + 1) * d) = 2 ^ n * d := by
      unfold cstp
      rw [Nat.pow_succ]
      rw [if_neg (by rw [Nat.mul_comm (2 ^ n) 2, Nat.mul_assoc]; omega)]
      rw [Nat.mul_comm (2 ^ n) 2, Nat.mul_assoc]
      omega
    rw [e, ih]
theorem xor_split (c : Nat) : c = (256 * (c / 256)) ^^^ (c % 256) := by
  have h := Nat.two_pow_add_eq_or_of_lt (i := 8) (b := c % 256) (Nat.mod_lt _ (by decide)) (c / 256)
  have h2 : 256 * (c / 256) ^^^ c % 256 = 256 * (c / 256) ||| c % 256 := by
    apply Nat.eq_of_testBit_eq
    intro i
    rw [Nat.testBit_xor, Nat.testBit_or]
    have e1 : (256 * (c / 256)).testBit i = (decide (i ≥ 8) && c.testBit i) := by
      rw [show (256 : Nat) = 2 ^ 8 from rfl, Nat.testBit_two_pow_mul, Nat.testBit_div_two_pow]
      by_cases hi : i ≥ 8
      · rw [show i - 8 + 8 = i by omega]
      · simp [hi]
    have e2 : (c % 256).testBit i = (decide (i < 8) && c.testBit i) := by
      rw [show (256 : Nat) = 2 ^ 8 from rfl, Nat.testBit_mod_two_pow]
    rw [e1, e2]
    by_cases hi : i < 8
    · simp [hi, show ¬ 8 ≤ i by omega]
    · simp [hi, show 8 ≤ i by omega]
  rw [h2, ← show (256 : Nat) = 2 ^ 8 from rfl] at *
  rw [← h]
  omega
theorem cbyte_bits (c b : Nat) : cbyte c b = cit 8 (c ^^^ b) := by
  unfold cbyte
  have e : c ^^^ b = (256 * (c / 256)) ^^^ ((c % 256) ^^^ b) := by
    rw [← Nat.xor_assoc, ← xor_split]
  rw [e, cit_xor 8 (256 * (c / 256)), show (256 : Nat) * (c / 256) = 2 ^ 8 * (c / 256) from rfl, cit_pow]
theorem chk_drewN {B : Nat} {w W : World} (h : Below B w W) (m : Nat) : Below B w (W.drewN m) := h.trans ⟨rfl, rfl, rfl, Nat.le_refl _, fun _ _ => rfl⟩
theorem chk_drew {B : Nat} {w W : World} (h : Below B w W) : Below B w W.drew := h.trans ⟨rfl, rfl, rfl, Nat.le_refl _, fun _ _ => rfl⟩
/-- A row of bytes in a block of its own, whose mark (a conversion's) lies behind them. -/
def BR (w : World) (g : Nat) (l : List Int) : Prop := ∃ cs t z, w.heap[g]? = some (.cells cs t z) ∧ l.length ≤ z.1 ∧ l.length ≤ cs.size ∧ ∀ i, i < l.length → cs[i]? = some (.int .u8 (l.getD i 0))
theorem BR.cell {w : World} {g : Nat} {l : List Int} (h : BR w g l) (i : Nat) (hi : i < l.length) : w.cell? ⟨g, i, none⟩ = some (.int .u8 (l.getD i 0)) := by
  obtain ⟨cs, t, z, h1, h2, h3, h4⟩ := h
  simp [World.cell?, h1, h4 i hi]
theorem BR.frozen {w : World} {g : Nat} {l : List Int} (h : BR w g l) (i : Nat) (hi : i < l.length) : w.frozen? ⟨g, i, none⟩ = false := by
  obtain ⟨cs, t, ⟨z1, z2⟩, h1, h2, h3, h4⟩ := h
  simp only at h2
  simp [World.frozen?, h1]
  intro h
  omega
theorem BR.put {w : World} {g : Nat} {l l' : List Int} (h : BR w g l) (i : Nat) (v : Int) (e : l.set i v = l') : BR (w.setCell ⟨g, i, none⟩ (.int .u8 v)) g l' := by
  obtain ⟨cs, t, z, h1, h2, h3, h4⟩ := h
  subst e
  refine ⟨cs.setIfInBounds i (.int .u8 v), t, z, by simp [World.setCell, Array.getElem?_modify, h1], by simpa using h2, by simpa using h3, fun k hk => ?_⟩
  rw [List.length_set] at hk
  rw [Array.getElem?_setIfInBounds]
  by_cases hki : i = k
  · subst hki
    rw [if_pos rfl, if_pos (by omega)]
    simp [List.getD_eq_getElem?_getD, hk]
  · rw [if_neg hki, h4 k hk]
    simp [List.getD_eq_getElem?_getD, List.getElem?_set, hki]
theorem BR.below {w w1 : World} {g : Nat} {l : List Int} (h : BR w g l) (hb : Below w.heap.size w w1) : BR w1 g l := by
  obtain ⟨cs, t, z, h1, h2⟩ := h
  exact ⟨cs, t, z, blk_below h1 hb, h2⟩
theorem BR.drewN {w : World} {g : Nat} {l : List Int} (h : BR w g l) (n : Nat) : BR (w.drewN n) g l := h
theorem BR.drew {w : World} {g : Nat} {l : List Int} (h : BR w g l) : BR w.drew g l := h
theorem BR.bytes (w : World) (e : TypeId) (s : ByteArray) : BR (Lib.bytesWorld w e s) w.heap.size (bytesOf s) := by
  have hsz : s.size ≤ (Lib.bytesCells w e s).size := by
    unfold Lib.bytesCells
    rw [Array.size_append, Array.size_map]
    exact Nat.le_add_right _ _
  refine ⟨_, _, _, Lib.bytesWorld_at_new w e s, by rw [bytesOf_length]; exact hsz, by rw [bytesOf_length]; exact hsz, fun i hi => ?_⟩
  rw [bytesOf_length] at hi
  have h := Lib.bytesWorld_cell w e s i hi
  have h2 : (Lib.bytesWorld w e s).cell? ⟨w.heap.size, i, none⟩ = (Lib.bytesCells w e s)[i]? := by simp [World.cell?, Lib.bytesWorld_at_new]
  have h' : i < s.data.toList.length := by rw [data_length]; exact hi
  rw [← h2, h]
  simp [bytesOf, List.getD_eq_getElem?_getD, List.getElem?_eq_getElem h']
theorem BR.text {w : World} {g : Nat} {l : List Int} (h : BR w g l) (n c : Nat) (hn : l.length = n) : (convert 27 9 (.slice (some ⟨g, 0, none⟩) n c)).run Try.prog w = .ok (.string (strOfNums l)) w :=
  run_convert_bytes_arg w 27 5 Try.underlying27 Try.underlying5 g 0 n c l hn (fun i hi => by rw [Nat.zero_add]; exact h.cell i (by omega)) 9 Try.underlying9
theorem bn_take (s : ByteArray) (n i : Nat) (h : i < n) (hn : n ≤ s.size) : bn (s.extract 0 n) i = bn s i := by
  have h1 : i < s.size := by omega
  unfold bn
  have e : (s.extract 0 n).data.toList = s.data.toList.take n := by
    rw [ByteArray.data_extract]
    simp
  rw [e, List.getD_eq_getElem?_getD, List.getElem?_take, if_pos h, ← List.getD_eq_getElem?_getD]
theorem take_len (s : ByteArray) (n : Nat) (hn : n ≤ s.size) : (s.extract 0 n).size = n := by
  rw [ByteArray.size_extract]
  omega
theorem nums_size (l : List Int) : (strOfNums l).size = l.length := by simp [strOfNums, ByteArray.size]
theorem nums_bn (l : List Int) (i : Nat) (h : i < l.length) : bn (strOfNums l) i = (l.getD i 0).toNat % 256 := by
  unfold bn strOfNums
  simp [List.getD_eq_getElem?_getD, List.getElem?_map, List.getElem?_eq_getElem h]
theorem bytes_bn (s : ByteArray) (i : Nat) : (bytesOf s).getD i 0 = (bn s i : Int) := by
  unfold bytesOf bn
  rw [List.getD_eq_getElem?_getD, List.getElem?_map, List.getD_eq_getElem?_getD]
  cases s.data.toList[i]? <;> rfl
theorem cupto_xor3 (x a b c : ByteArray) (c1 c2 c3 : Nat) : ∀ n, (∀ i, i < n → bn x i = bn a i ^^^ (bn b i ^^^ bn c i)) → cupto (c1 ^^^ (c2 ^^^ c3)) x n = cupto c1 a n ^^^ (cupto c2 b n ^^^ cupto c3 c n)
  | 0, _ => rfl
  | n + 1, h => by
    show cbyte (cupto _ x n) (bn x n) = cbyte (cupto c1 a n) (bn a n) ^^^ (cbyte (cupto c2 b n) (bn b n) ^^^ cbyte (cupto c3 c n) (bn c n))
    rw [cupto_xor3 x a b c c1 c2 c3 n (fun i hi => h i (by omega)), h n (by omega)]
    simp only [cbyte_bits]
    rw [← cit_xor, ← cit_xor]
    congr 1
    ac_rfl
/-! A burst of 32 bits changes the check. -/
theorem cstp_zero (c : Nat) (h : c < 4294967296) (hz : cstp c = 0) : c = 0 := by
  unfold cstp at hz
  split at hz
  · have := congrArg (· ^^^ 2197175160) hz
    simp only [Nat.xor_assoc, Nat.xor_self, Nat.xor_zero, Nat.zero_xor] at this
    omega
  · omega
theorem cit_zero (n c : Nat) (h : c < 4294967296) (hz : cit n c = 0) : c = 0 := by
  induction n with
  | zero => exact hz
  | succ n ih => exact ih (cstp_zero _ (cit_lt n c h) hz)
/-- What bytes of a number, as they come, make of a check of nought. -/
def cnum (E : Nat) : Nat → Nat
  | 0 => 0
  | i + 1 => cit 8 (cnum E i ^^^ (E / 256 ^ i % 256))
theorem cnum_all (E : Nat) : ∀ i, cit (8 * i) E = cnum E i ^^^ E / 256 ^ i
  | 0 => by simp [cit, cnum]
  | i + 1 => by
    have e : cit (8 * (i + 1)) E = cit 8 (cit (8 * i) E) := by rw [cit_add, Nat.mul_add, Nat.add_comm]
    rw [e, cnum_all E i]
    have e2 : E / 256 ^ i = 2 ^ 8 * (E / 256 ^ (i + 1)) ^^^ E / 256 ^ i % 256 := by
      have := xor_split (E / 256 ^ i)
      rw [Nat.div_div_eq_div_mul, ← Nat.pow_succ] at this
      exact this
    rw [show cnum E i ^^^ E / 256 ^ i = (cnum E i ^^^ (E / 256 ^ i % 256)) ^^^ 2 ^ 8 * (E / 256 ^ (i + 1)) by rw [Nat.xor_assoc, Nat.xor_comm (E / 256 ^ i % 256), ← e2]]
    rw [cit_xor, cit_pow]
    rfl
theorem cupto_num (c E : Nat) (x y : ByteArray) : ∀ n, (∀ i, i < n → bn x i = bn y i ^^^ (E / 256 ^ i % 256)) → cupto c x n = cupto c y n ^^^ cnum E n
  | 0, _ => by simp [cupto, cnum]
  | n + 1, h => by
    show cbyte (cupto c x n) (bn x n) = cbyte (cupto c y n) (bn y n) ^^^ cit 8 (cnum E n ^^^ (E / 256 ^ n % 256))
    rw [cupto_num c E x y n (fun i hi => h i (by omega)), h n (by omega), cbyte_bits, cbyte_bits, ← cit_xor]
    congr 1
    ac_rfl
/-- The bits that k rounds turn. -/
def ek (bits at' n : Nat) : Nat → Nat
  | 0 => 0
  | k + 1 => if bits.testBit k = true ∧ at' + k < 8 * n then ek bits at' n k ^^^ 2 ^ (at' + k) else ek bits at' n k
theorem ek_bit (bits a n : Nat) : ∀ k p, (ek bits a n k).testBit p = (decide (a ≤ p ∧ p < a + k ∧ p < 8 * n) && bits.testBit (p - a))
  | 0, p => by
    have : ¬ (a ≤ p ∧ p < a + 0 ∧ p < 8 * n) := by omega
    simp [ek, this]
    omega
  | k + 1, p => by
    have ih := ek_bit bits a n k p
    unfold ek
    by_cases hp : p = a + k
    · subst hp
      have h0 : ¬ (a ≤ a + k ∧ a + k < a + k ∧ a + k < 8 * n) := by omega
      rw [decide_eq_false h0, Bool.false_and] at ih
      rw [Nat.add_sub_cancel_left]
      by_cases hc : bits.testBit k = true ∧ a + k < 8 * n
      · rw [if_pos hc, Nat.testBit_xor, ih, Nat.testBit_two_pow_self, hc.1, decide_eq_true (by omega)]
        rfl
      · rw [if_neg hc, ih]
        by_cases hb : bits.testBit k = true
        · have : ¬ (a ≤ a + k ∧ a + k < a + (k + 1) ∧ a + k < 8 * n) := fun h => hc ⟨hb, h.2.2⟩
          rw [decide_eq_false this, Bool.false_and]
        · rw [Bool.eq_false_iff.mpr hb, Bool.and_false]
    · have e : decide (a ≤ p ∧ p < a + (k + 1) ∧ p < 8 * n) = decide (a ≤ p ∧ p < a + k ∧ p < 8 * n) := by
        apply decide_eq_decide.mpr
        omega
      rw [e, ← ih]
      split
      · rw [Nat.testBit_xor, Nat.testBit_two_pow_of_ne (by omega), Bool.xor_false]
      · rfl
theorem ek_all (bits a n : Nat) (ha : a ≤ 8 * n) (hb : bits < 4294967296) : ek bits a n 32 = 2 ^ a * (bits % 2 ^ (8 * n - a)) := by
  apply Nat.eq_of_testBit_eq
  intro p
  rw [ek_bit, Nat.testBit_two_pow_mul, Nat.testBit_mod_two_pow]
  by_cases h1 : a ≤ p
  · by_cases h2 : p < a + 32
    · by_cases h3 : p < 8 * n
      · simp [h1, h2, h3, show p - a < 8 * n - a by omega]
      · simp [h1, h3, show ¬ p - a < 8 * n - a by omega]
    · have : bits.testBit (p - a) = false := Nat.testBit_lt_two_pow (Nat.lt_of_lt_of_le (show bits < 2 ^ 32 from hb) (Nat.pow_le_pow_right (by decide) (by omega)))
      simp [this]
  · simp [h1]
theorem ek_lt (bits a n : Nat) (k : Nat) : ek bits a n k < 2 ^ (8 * n) := by
  apply Nat.lt_pow_two_of_testBit
  intro p hp
  rw [ek_bit, decide_eq_false (by omega), Bool.false_and]
theorem pow256 (i : Nat) : (256 : Nat) ^ i = 2 ^ (8 * i) := by rw [show (256 : Nat) = 2 ^ 8 from rfl, ← Nat.pow_mul]
/-- One byte of a number one bit of which is turned. -/
theorem byte_turn (E p i : Nat) : (E ^^^ 2 ^ p) / 256 ^ i % 256 = (E / 256 ^ i % 256) ^^^ (if i = p / 8 then 2 ^ (p % 8) else 0) := by
  apply Nat.eq_of_testBit_eq
  intro q
  rw [pow256, show (256 : Nat) = 2 ^ 8 from rfl, Nat.testBit_mod_two_pow, Nat.testBit_div_two_pow, Nat.testBit_xor, Nat.testBit_xor, Nat.testBit_mod_two_pow, Nat.testBit_div_two_pow]
  by_cases hq : q < 8
  · rw [decide_eq_true hq, Bool.true_and, Bool.true_and]
    congr 1
    by_cases hi : i = p / 8
    · rw [if_pos hi]
      by_cases he : p = q + 8 * i
      · rw [← he, Nat.testBit_two_pow_self, show p % 8 = q by omega, Nat.testBit_two_pow_self]
      · rw [Nat.testBit_two_pow_of_ne he, Nat.testBit_two_pow_of_ne (by omega)]
    · rw [if_neg hi, Nat.zero_testBit, Nat.testBit_two_pow_of_ne (by omega)]
  · rw [decide_eq_false hq, Bool.false_and, Bool.false_and, Bool.false_xor]
    by_cases hi : i = p / 8
    · rw [if_pos hi, Nat.testBit_two_pow_of_ne (by omega)]
    · rw [if_neg hi, Nat.zero_testBit]
/-- The row behind k rounds. -/
def brow (s : ByteArray) (bits a k : Nat) : List Int := (List.range s.size).map fun i => ((bn s i ^^^ (ek bits a s.size k / 256 ^ i % 256) : Nat) : Int)
theorem brow_length (s : ByteArray) (bits a k : Nat) : (brow s bits a k).length = s.size := by simp [brow]
theorem brow_at (s : ByteArray) (bits a k i : Nat) (h : i < s.size) : (brow s bits a k).getD i 0 = ((bn s i ^^^ (ek bits a s.size k / 256 ^ i % 256) : Nat) : Int) := by
  simp [brow, List.getD_eq_getElem?_getD, h]
theorem brow_start (s : ByteArray) (bits a : Nat) : bytesOf s = brow s bits a 0 := by
  apply List.ext_getElem
  · rw [bytesOf_length, brow_length]
  · intro t h1 h2
    have ht : t < s.size := by rw [brow_length] at h2; exact h2
    have e1 := bytes_bn s t
    have e2 := brow_at s bits a 0 t ht
    simp only [ek, Nat.zero_div, Nat.zero_mod, Nat.xor_zero] at e2
    rw [List.getD_eq_getElem?_getD, List.getElem?_eq_getElem h1] at e1
    rw [List.getD_eq_getElem?_getD, List.getElem?_eq_getElem h2] at e2
    exact e1.trans e2.symm
theorem brow_same (s : ByteArray) (bits a k : Nat) (h : ¬ (bits.testBit k = true ∧ a + k < 8 * s.size)) : brow s bits a (k + 1) = brow s bits a k := by
  unfold brow
  rw [show ek bits a s.size (k + 1) = ek bits a s.size k from if_neg h]
theorem brow_set (s : ByteArray) (bits a k : Nat) (h : bits.testBit k = true ∧ a + k < 8 * s.size) :
    (brow s bits a k).set ((a + k) / 8) (((bn s ((a + k) / 8) ^^^ (ek bits a s.size k / 256 ^ ((a + k) / 8) % 256)) ^^^ 2 ^ ((a + k) % 8) : Nat) : Int) = brow s bits a (k + 1) := by
  have hi : (a + k) / 8 < s.size := by omega
  have hE : ek bits a s.size (k + 1) = ek bits a s.size k ^^^ 2 ^ (a + k) := if_pos h
  apply List.ext_getElem
  · rw [List.length_set, brow_length, brow_length]
  · intro t h1 h2
    have ht : t < s.size := by rw [brow_length] at h2; exact h2
    have e1 := brow_at s bits a k t ht
    have e2 := brow_at s bits a (k + 1) t ht
    rw [hE, byte_turn] at e2
    rw [List.getD_eq_getElem?_getD, List.getElem?_eq_getElem (by rw [brow_length]; exact ht)] at e1
    rw [List.getD_eq_getElem?_getD, List.getElem?_eq_getElem h2] at e2
    rw [List.getElem_set]
    by_cases hti : (a + k) / 8 = t
    · subst hti
      rw [if_pos rfl]
      rw [if_pos rfl] at e2
      refine Eq.trans ?_ e2.symm
      rw [Nat.xor_assoc]
    · rw [if_neg hti]
      rw [if_neg (Ne.symm hti), Nat.xor_zero] at e2
      exact e1.trans e2.symm
theorem brow_lt (s : ByteArray) (bits a k i : Nat) : bn s i ^^^ (ek bits a s.size k / 256 ^ i % 256) < 256 := xor8_lt (bn_lt s i) (Nat.mod_lt _ (by decide))
theorem brow_bn (s : ByteArray) (bits a k i : Nat) (h : i < s.size) : bn (strOfNums (brow s bits a k)) i = bn s i ^^^ (ek bits a s.size k / 256 ^ i % 256) := by
  rw [nums_bn _ _ (by rw [brow_length]; exact h), brow_at s bits a k i h, Int.toNat_natCast]
  exact Nat.mod_eq_of_lt (brow_lt s bits a k i)
theorem list_of_bn (x y : ByteArray) (hz : x.size = y.size) (h : ∀ i, i < x.size → bn x i = bn y i) : x.data.toList = y.data.toList := by
  have hx : x.data.toList.length = x.size := data_length x
  have hy : y.data.toList.length = y.size := data_length y
  apply List.ext_getElem
  · rw [hx, hy, hz]
  · intro i h1 h2
    have e := h i (by omega)
    unfold bn at e
    rw [List.getD_eq_getElem?_getD, List.getElem?_eq_getElem h1, List.getD_eq_getElem?_getD, List.getElem?_eq_getElem h2] at e
    exact UInt8.toNat_inj.mp e
/-- Either nothing was turned, or the check is another one. -/
theorem burst (s : ByteArray) (bits a : Nat) (hb : bits < 4294967296) (ha : a ≤ 8 * s.size) : strOfNums (brow s bits a 32) = s ∨ con 0 (strOfNums (brow s bits a 32)) ≠ con 0 s := by
  have hsz : (strOfNums (brow s bits a 32)).size = s.size := by rw [nums_size, brow_length]
  have hall := ek_all bits a s.size ha hb
  by_cases he : ek bits a s.size 32 = 0
  · left
    apply ByteArray.ext
    apply Array.toList_inj.mp
    refine list_of_bn _ _ hsz (fun i hi => ?_)
    rw [brow_bn s bits a 32 i (by omega), he]
    simp
  · right
    intro hc
    apply he
    have h1 := cupto_num (0 ^^^ 4294967295) (ek bits a s.size 32) (strOfNums (brow s bits a 32)) s s.size (fun i hi => brow_bn s bits a 32 i hi)
    unfold con at hc
    rw [hsz] at hc
    have hc2 := congrArg (· ^^^ 4294967295) hc
    simp only [Nat.xor_assoc, Nat.xor_self, Nat.xor_zero] at hc2
    rw [hc2] at h1
    have hz : cnum (ek bits a s.size 32) s.size = 0 := by
      have := congrArg (fun v => cupto (0 ^^^ 4294967295) s s.size ^^^ v) h1
      simp only [← Nat.xor_assoc, Nat.xor_self, Nat.zero_xor] at this
      exact this.symm
    have h2 := cnum_all (ek bits a s.size 32) s.size
    rw [hz, pow256, Nat.div_eq_of_lt (ek_lt bits a s.size 32), Nat.xor_zero] at h2
    rw [hall] at h2 ⊢
    have h3 : cit (8 * s.size) (2 ^ a * (bits % 2 ^ (8 * s.size - a))) = cit (8 * s.size - a) (bits % 2 ^ (8 * s.size - a)) := by
      rw [show 8 * s.size = (8 * s.size - a) + a by omega, ← cit_add, show 8 * s.size - a + a - a = 8 * s.size - a by omega, cit_pow]
    rw [h3] at h2
    rw [cit_zero _ _ (Nat.lt_of_le_of_lt (Nat.mod_le _ _) hb) h2, Nat.mul_zero]
theorem BR.lt {w : World} {g : Nat} {l : List Int} (h : BR w g l) : g ≤ w.heap.size := by
  obtain ⟨cs, t, z, e, _⟩ := h
  exact Nat.le_of_lt (blk_lt e)
theorem ba_loop (s : ByteArray) : ∀ (n i : Nat) (r : List UInt8), s.size - i = n → ByteArray.toList.loop s i r = r.reverse ++ s.data.toList.drop i
  | 0, i, r, h => by
    unfold ByteArray.toList.loop
    rw [if_neg (by omega), List.drop_eq_nil_of_le (by rw [data_length]; omega), List.append_nil]
  | n + 1, i, r, h => by
    have hi : i < s.data.toList.length := by rw [data_length]; omega
    have hd := List.drop_eq_getElem_cons hi
    have hg : s.get! i = s.data.toList[i] := by
      have h1 : i < s.data.size := by rw [← Array.length_toList]; exact hi
      show s.data[i]! = _
      rw [getElem!_pos s.data i h1]
      rfl
    unfold ByteArray.toList.loop
    rw [if_pos (by omega), ba_loop s n (i + 1) _ (by omega), hd, hg]
    simp
theorem ba_toList (s : ByteArray) : s.toList = s.data.toList := by
  unfold ByteArray.toList
  rw [ba_loop s s.size 0 [] (by omega)]
  simp
theorem chk_bytes (W : World) (s : ByteArray) : (convert 9 27 (.string s)).run Try.prog W = .ok (.slice (some ⟨W.heap.size, 0, none⟩) s.size (grownCap W s.size 0 5)) (Lib.bytesWorld W 5 s) := Lib.run_convert_string_bytes W 9 27 5 s Try.underlying9 Try.underlying27 Try.underlying5
/-- The law's function: true for every text, place and bits. -/
def tarrylaw02_CheckBursts.f (a0 : ByteArray) (a1 a2 : Int) : Option Bool := if 0 ≤ a2 ∧ a2 < 4294967296 then some true else none
set_option maxHeartbeats 4000000 in
set_option maxRecDepth 100000 in
theorem tarrylaw02_CheckBursts.calls (a0 : ByteArray) (a1 a2 : Int) (r : Bool) (w : World) (h : tarrylaw02_CheckBursts.f a0 a1 a2 = some r) :
    Calls Try.prog 4 #[.string a0, .int .i64 a1, .int .u32 a2] w fun e w' => e = .returned (.bool r) ∧ Below w.heap.size w w' := by
  simp only [tarrylaw02_CheckBursts.f, Option.ite_none_right_eq_some, Option.some.injEq] at h
  obtain ⟨⟨h0, h1⟩, rfl⟩ := h
  obtain ⟨bits, rfl⟩ : ∃ c : Nat, a2 = (c : Int) := ⟨a2.toNat, by omega⟩
  have hbits : bits < 4294967296 := by omega
  clear h0 h1
  obtain ⟨j, hj⟩ : ∃ j : Int, (if 200 < (a0.size : Int) then 200 else (a0.size : Int)) = j := ⟨_, rfl⟩
  have l0 : 0 ≤ j ∧ j ≤ a0.size ∧ j ≤ 200 := by rw [← hj]; split <;> omega
  obtain ⟨m0, m1, m2⟩ := l0
  obtain ⟨s, hs⟩ : ∃ s : ByteArray, a0.extract 0 j.toNat = s := ⟨_, rfl⟩
  have hz : s.size ≤ 200 := by
    rw [← hs, ByteArray.size_extract]
    omega
  clear m2
  replace m0 := eq_true m0
  replace m1 := eq_true m1
  have hcv := chk_bytes
  have hu27 := Try.underlying27
  have FA := Aside0.mk alive_f
  by_cases hs0 : s.size = 0
  · have hs0b : ((s.size : Int) == 0) = true := by rw [hs0]; rfl
    go_enter Try.func4, Try.ntmps4
    go_wp2_with (go_at_call 7; refine (tarrylaw02_alive.calls true _ FA.out).mono ?_; rintro e w4 ⟨rfl, hb⟩; have HB := Aside0.mk hb; clear hb)
    go_ret
    exact ⟨rfl, HB.out⟩
  have hs0b : ((s.size : Int) == 0) = false := beq_eq_false_iff_ne.mpr (by omega)
  by_cases hbz : bits = 0
  · subst hbz
    go_enter Try.func4, Try.ntmps4
    go_wp2_with (go_at_call 7; refine (tarrylaw02_alive.calls true _ FA.out).mono ?_; rintro e w4 ⟨rfl, hb⟩; have HB := Aside0.mk hb; clear hb)
    go_ret
    exact ⟨rfl, HB.out⟩
  have hbzb : ((bits : Int) == 0) = false := beq_eq_false_iff_ne.mpr (by omega)
  have hN : (8 * (s.size : Int)) ≠ 0 := by omega
  obtain ⟨N, hNN⟩ : ∃ N : Int, 8 * (s.size : Int) = N := ⟨_, rfl⟩
  obtain ⟨q1, hq1⟩ : ∃ q : Int, Int.tmod a1 N = q := ⟨_, rfl⟩
  have hq1r : -N < q1 ∧ q1 < N := by
    rw [← hq1]
    have h1 := Int.tmod_lt_of_pos a1 (show 0 < N by omega)
    have h2 := Int.lt_tmod_of_pos a1 (show 0 < N by omega)
    omega
  obtain ⟨q2, hq2⟩ : ∃ q : Int, Int.tmod (q1 + N) N = q := ⟨_, rfl⟩
  have hq2r : 0 ≤ q2 ∧ q2 < N := by
    rw [← hq2, Int.tmod_eq_emod_of_nonneg (by omega)]
    exact ⟨Int.emod_nonneg _ (by omega), Int.emod_lt_of_pos _ (by omega)⟩
  have hw1 : 8 * (s.size : Int) ≤ 1600 := by omega
  go_enter Try.func4, Try.ntmps4
  go_wp2
  have HB0 := Aside0.mk (bytes_below (Below.refl w.heap.size w) (Nat.le_refl _) 5 s)
  have HR := Aside0.mk (BR.bytes w 5 s)
  generalize Lib.bytesWorld w 5 s = w3 at *
  generalize grownCap w s.size 0 5 = cap at *
  obtain ⟨a, rfl⟩ : ∃ a : Nat, q2 = (a : Int) := ⟨q2.toNat, by omega⟩
  have ha : a < 8 * s.size := by omega
  rw [brow_start s bits a] at HR
  have HNN := Aside0.mk hNN
  have FB := Aside0.mk (burst s bits a hbits (by omega))
  have hN2 : N ≤ 1600 := by omega
  clear hq2 hq1 hq2r hq1r hw1 hj hs hbzb hs0b hs0 hNN m0 m1 hN hbz
  generalize hg : w.heap.size = g at *
  have HG := Aside0.mk hg
  clear hg
  go_loopw [36] (fun v W => ∃ k : Nat, k ≤ 32 ∧ v = .int .i64 k ∧ Aside0 (BR W g (brow s bits a k)) ∧ Aside0 (Below g w W)) (fun v _ => 32 - (intOf v).toNat)
  case atStart => exact ⟨0, by omega, rfl, HR, HB0⟩
  case round =>
    clear HR HB0
    obtain ⟨k, hk, rfl, HR, HB⟩ := hrel
    by_cases hlt : k < 32
    · have hb1 : Go.bits .and .u32 ((bits : Int) / 2 ^ k) 1 = ((bits / 2 ^ k % 2 : Nat) : Int) := by
        have e : ((bits : Int) / 2 ^ k) = ((bits / 2 ^ k : Nat) : Int) := by simp
        rw [e, chk_bits _ (Int.natCast_nonneg _) (by have := Nat.div_le_self bits (2 ^ k); omega)]
        rfl
      by_cases ht : bits.testBit k = true
      · have hq : (Go.bits .and .u32 ((bits : Int) / 2 ^ k) 1 == 1) = true := by
          rw [hb1]
          rw [Nat.testBit_eq_decide_div_mod_eq, decide_eq_true_eq] at ht
          rw [ht]
          rfl
        clear hb1
        by_cases hp : a + k < 8 * s.size
        · have hp2 : (a : Int) + (k : Int) < N := by rw [← HNN.out]; omega
          obtain ⟨pi, hpi⟩ : ∃ q : Nat, (a + k) / 8 = q := ⟨_, rfl⟩
          obtain ⟨pr, hpr⟩ : ∃ q : Nat, (a + k) % 8 = q := ⟨_, rfl⟩
          have hpi1 : ((a : Int) + (k : Int)) / 8 = (pi : Int) := by omega
          have hpr1 : ((a : Int) + (k : Int)) % 8 = (pr : Int) := by omega
          have hpis : pi < s.size := by omega
          have hprs : pr < 8 := by omega
          have hc1 := HR.out.cell pi (by rw [brow_length]; exact hpis)
          have hf1 := HR.out.frozen pi (by rw [brow_length]; exact hpis)
          rw [brow_at s bits a k pi hpis] at hc1
          have p0 : (0 : Int) ≤ (pi : Int) := by omega
          have p1 : (pi : Int) < (s.size : Int) := by omega
          have p2 : (0 : Int) ≤ (pr : Int) := by omega
          have p3 : (pr : Int) ≤ 8 := by omega
          have HS := Aside0.mk (brow_set s bits a k ⟨ht, hp⟩)
          have hlb := brow_lt s bits a k pi
          rw [hpi, hpr] at HS
          generalize bn s pi ^^^ (ek bits a s.size k / 256 ^ pi % 256) = b0 at *
          have HPW : 2 ^ pr < 256 := Nat.lt_of_le_of_lt (Nat.pow_le_pow_right (n := 2) (by decide) (show pr ≤ 7 by omega)) (by decide)
          have HV := Aside0.mk (x8 b0 (2 ^ pr) hlb HPW)
          have HPWA := Aside0.mk HPW
          have HPA := Aside0.mk hpi
          have HPB := Aside0.mk hpr
          clear hpi hpr HPW hlb
          go_wp2
          go_region
          go_wp2
          have e : (2 : Int) ^ pr % 256 = ((2 ^ pr : Nat) : Int) := by
            have h := HPWA.out
            have e2 : (2 : Int) ^ pr = ((2 ^ pr : Nat) : Int) := by simp
            rw [e2]
            exact Int.emod_eq_of_lt (Int.natCast_nonneg _) (by exact_mod_cast h)
          rw [e, HV.out]
          have hm : (intOf (Value.int IntKind.i64 (↑k + 1))).toNat = k + 1 := by simp [intOf]
          have hm2 : (intOf (Value.int IntKind.i64 ↑k)).toNat = k := by simp [intOf]
          exact ⟨⟨k + 1, by omega, rfl, ⟨BR.drew (HR.out.put pi _ HS.out)⟩, ⟨chk_drew (HB.out.setCell (Nat.le_refl _) _)⟩⟩, by rw [hm, hm2]; omega⟩
        · have hp2 : decide ((a : Int) + (k : Int) < N) = false := by rw [← HNN.out]; exact decide_eq_false (by omega)
          have HS := brow_same s bits a k (fun h => hp h.2)
          rw [← HS] at HR
          clear hp HS
          have hm : (intOf (Value.int IntKind.i64 (↑k + 1))).toNat = k + 1 := by simp [intOf]
          have hm2 : (intOf (Value.int IntKind.i64 ↑k)).toNat = k := by simp [intOf]
          go_wp2
          exact ⟨⟨k + 1, by omega, rfl, HR, HB⟩, by rw [hm, hm2]; omega⟩
      · have hq : (Go.bits .and .u32 ((bits : Int) / 2 ^ k) 1 == 1) = false := by
          rw [hb1]
          rw [Nat.testBit_eq_decide_div_mod_eq, decide_eq_true_eq] at ht
          exact beq_eq_false_iff_ne.mpr (by omega)
        have HS := brow_same s bits a k (fun h => ht h.1)
        rw [← HS] at HR
        clear ht HS hb1
        have hm : (intOf (Value.int IntKind.i64 (↑k + 1))).toNat = k + 1 := by simp [intOf]
        have hm2 : (intOf (Value.int IntKind.i64 ↑k)).toNat = k := by simp [intOf]
        go_wp2
        exact ⟨⟨k + 1, by omega, rfl, HR, HB⟩, by rw [hm, hm2]; omega⟩
    · obtain rfl : k = 32 := by omega
      have hcs := HR.out.text s.size cap (brow_length s bits a 32)
      have F1 := Aside0.mk (Of_n (strOfNums (brow s bits a 32)) (by rw [nums_size, brow_length]; omega))
      have F2 := Aside0.mk (Of_n s (by omega))
      obtain hE | hE := FB.out
      · rw [hE] at hcs
        have hbs : (s.toList == s.toList) = true := beq_self_eq_true _
        go_wp2_with (go_at_call 7; refine (tarrylaw02_alive.calls true _ FA.out).mono ?_; rintro e w4 ⟨rfl, hb⟩; have hcs2 := BR.text (BR.below HR.out hb) s.size cap (brow_length s bits a 32); rw [hE] at hcs2; have HB4 := Aside0.mk (HB.out.trans (hb.mono (BR.lt HR.out))); clear hb)
        go_ret
        rw [HG.out]
        exact ⟨rfl, HB4.out⟩
      · have hne : (strOfNums (brow s bits a 32)).toList ≠ s.toList := by
          intro e
          apply hE
          congr 1
          apply ByteArray.ext
          apply Array.toList_inj.mp
          rw [ba_toList, ba_toList] at e
          exact e
        have hbs : ((strOfNums (brow s bits a 32)).toList == s.toList) = false := beq_eq_false_iff_ne.mpr hne
        have hneq : ((con 0 (strOfNums (brow s bits a 32)) : Int) != (con 0 s : Int)) = true := bne_iff_ne.mpr (by omega)
        clear hne hE
        go_wp2_with (first | (go_at_call 7; refine (tarrylaw02_alive.calls true _ FA.out).mono ?_; rintro e w4 ⟨rfl, hb⟩; have hcs2 := BR.text (BR.below HR.out hb) s.size cap (brow_length s bits a 32); have HB4 := Aside0.mk (HB.out.trans (hb.mono (BR.lt HR.out))); clear hb) | (go_at_call 9; refine (check_Of.calls _ _ _ F1.out).mono ?_; rintro e w5 ⟨rfl, hb⟩; have HB5 := Aside0.mk hb; clear hb) | (go_at_call 9; refine (check_Of.calls _ _ _ F2.out).mono ?_; rintro e w6 ⟨rfl, hb⟩; have HB6 := Aside0.mk hb; clear hb))
        go_ret
        have h4 := HB4.out
        rw [← HG.out] at h4
        exact ⟨rfl, (h4.trans (HB5.out.mono h4.size)).trans (HB6.out.mono (Nat.le_trans h4.size HB5.out.size))⟩

/-- THE ONE PURE STATEMENT of tarrylaw02_CheckBursts. -/
def tarrylaw02_CheckBursts.Pure : Prop := ∀ (a0 : ByteArray) (a1 : Int) (a2 : Int), a0.size ≤ 140737488351232 → (Lit.int .i64 a1).wf = true → (Lit.int .u32 a2).wf = true → tarrylaw02_CheckBursts.f a0 a1 a2 = some true

end Go.Proofs.Ytadmbihghbfdbaa.PCheckBursts
