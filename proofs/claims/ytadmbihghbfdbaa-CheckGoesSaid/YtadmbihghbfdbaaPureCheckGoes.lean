import Derived.Test.YtadmbihghbfdbaaPCheckGoesx1
namespace Go.Proofs.Ytadmbihghbfdbaa.Pure
open Go.RowKit Go.Proofs.Ytadmbihghbfdbaa.PCheckGoes Go.Proofs.YtadmbihghbfdbaaW.PrintWords Go.Proofs.YtadmbihghbfdbaaW.PrintLast Go.Proofs.YtadmbihghbfdbaaW.PrintMore
theorem mn_le_left (a b : Int) : mn a b ≤ a := by unfold mn; split <;> omega
theorem mn_le_right (a b : Int) : mn a b ≤ b := by unfold mn; split <;> omega
theorem mn_nonneg {a b : Int} (h : 0 ≤ a) (h' : 0 ≤ b) : 0 ≤ mn a b := by unfold mn; split <;> omega
theorem fits_small {s : ByteArray} (h : s.size ≤ 1000000) : chk_fits s = true := by
  unfold chk_fits
  exact decide_eq_true (by omega)
/-- The xor of two, of 32 bits, in natural numbers. -/
theorem x32 (a b : Nat) (ha : a < 4294967296) (hb : b < 4294967296) : Go.bits .xor .u32 (a : Int) (b : Int) = ((a ^^^ b : Nat) : Int) := by
  have h : (a ^^^ b) < 4294967296 := Nat.xor_lt_two_pow (n := 32) ha hb
  simp only [Go.bits, IntKind.wrap_u32]
  have e1 : (BitVec.ofInt IntKind.u32.bits (a : Int) ^^^ BitVec.ofInt IntKind.u32.bits (b : Int)).toNat = a ^^^ b := by
    show (BitVec.ofInt 32 (a : Int) ^^^ BitVec.ofInt 32 (b : Int)).toNat = a ^^^ b
    rw [BitVec.toNat_xor]
    simp [BitVec.toNat_ofNat]
    rw [Nat.mod_eq_of_lt ha, Nat.mod_eq_of_lt hb]
  rw [e1]
  omega
theorem x8 (a b : Nat) (ha : a < 256) (hb : b < 256) : Go.bits .xor .u8 (a : Int) (b : Int) = ((a ^^^ b : Nat) : Int) := by
  have h : (a ^^^ b) < 256 := Nat.xor_lt_two_pow (n := 8) ha hb
  simp only [Go.bits, IntKind.wrap_u8]
  have e1 : (BitVec.ofInt IntKind.u8.bits (a : Int) ^^^ BitVec.ofInt IntKind.u8.bits (b : Int)).toNat = a ^^^ b := by
    show (BitVec.ofInt 8 (a : Int) ^^^ BitVec.ofInt 8 (b : Int)).toNat = a ^^^ b
    rw [BitVec.toNat_xor]
    simp [BitVec.toNat_ofNat]
    rw [Nat.mod_eq_of_lt ha, Nat.mod_eq_of_lt hb]
  rw [e1]
  omega
/-! The check, in natural numbers. -/
def cstp (c : Nat) : Nat := if c % 2 = 1 then (c / 2) ^^^ 2197175160 else c / 2
def cit : Nat → Nat → Nat
  | 0, c => c
  | n + 1, c => cstp (cit n c)
def bn (s : ByteArray) (i : Nat) : Nat := (s.data.toList.getD i 0).toNat
def cbyte (c b : Nat) : Nat := (c / 256) ^^^ cit 8 ((c % 256) ^^^ b)
def cupto (c : Nat) (s : ByteArray) : Nat → Nat
  | 0 => c
  | i + 1 => cbyte (cupto c s i) (bn s i)
theorem bn_lt (s : ByteArray) (i : Nat) : bn s i < 256 := UInt8.toNat_lt _
theorem bt_bn (s : ByteArray) (i : Nat) : bt s (i : Int) = (bn s i : Int) := by
  unfold bt bn
  have hl : s.data.toList.length = s.size := by rw [Array.length_toList]; rfl
  by_cases h : i < s.size
  · have h' : ((i : Int)).toNat < s.size := by simpa using h
    rw [dif_pos h']
    have h2 : i < s.data.toList.length := by omega
    simp [List.getD_eq_getElem?_getD, List.getElem?_eq_getElem h2]
    rfl
  · have h' : ¬ ((i : Int)).toNat < s.size := by simpa using h
    rw [dif_neg h']
    have h2 : s.data.toList.length ≤ i := by omega
    simp [List.getD_eq_getElem?_getD, List.getElem?_eq_none h2]
theorem cstp_lt (c : Nat) (h : c < 4294967296) : cstp c < 4294967296 := by
  unfold cstp
  split
  · exact Nat.xor_lt_two_pow (n := 32) (by omega) (by decide)
  · omega
theorem cit_lt (n c : Nat) (h : c < 4294967296) : cit n c < 4294967296 := by
  induction n with
  | zero => exact h
  | succ n ih => exact cstp_lt _ ih
theorem stp_n (c : Nat) (h : c < 4294967296) : chk_stp (c : Int) = (cstp c : Int) := by
  unfold chk_stp cstp
  by_cases hc : c % 2 = 1
  · rw [if_pos hc, if_pos (by omega)]
    have := x32 (c / 2) 2197175160 (by omega) (by decide)
    rw [← this]
    congr 1
  · rw [if_neg hc, if_neg (by omega)]
    omega
theorem it_n (n c : Nat) (h : c < 4294967296) : chk_it n (c : Int) = (cit n c : Int) := by
  induction n with
  | zero => rfl
  | succ n ih =>
    show chk_stp (chk_it n c) = (cstp (cit n c) : Int)
    rw [ih, stp_n _ (cit_lt n c h)]
theorem xor8_lt {a b : Nat} (ha : a < 256) (hb : b < 256) : a ^^^ b < 256 := Nat.xor_lt_two_pow (n := 8) ha hb
theorem cbyte_lt (c b : Nat) (h : c < 4294967296) (hb : b < 256) : cbyte c b < 4294967296 :=
  Nat.xor_lt_two_pow (n := 32) (by omega) (cit_lt _ _ (by have := xor8_lt (a := c % 256) (b := b) (by omega) hb; omega))
theorem byte_n (c b : Nat) (h : c < 4294967296) (hb : b < 256) : chk_byte (c : Int) (b : Int) = (cbyte c b : Int) := by
  unfold chk_byte cbyte
  have e1 : ((c : Int) % 256) = ((c % 256 : Nat) : Int) := by omega
  have e2 : ((c : Int) / 256) = ((c / 256 : Nat) : Int) := by omega
  have hx := xor8_lt (a := c % 256) (b := b) (by omega) hb
  rw [e1, e2, x8 _ _ (by omega) hb, it_n _ _ (by omega), x32 _ _ (by omega) (cit_lt _ _ (by omega))]
theorem cupto_lt (c : Nat) (s : ByteArray) (h : c < 4294967296) : ∀ i, cupto c s i < 4294967296
  | 0 => h
  | i + 1 => cbyte_lt _ _ (cupto_lt c s h i) (bn_lt s i)
theorem upto_n (c : Nat) (s : ByteArray) (h : c < 4294967296) : ∀ i, chk_upto (c : Int) s i = (cupto c s i : Int)
  | 0 => rfl
  | i + 1 => by
    show chk_byte (chk_upto (c : Int) s i) (bt s (i : Int)) = (cbyte (cupto c s i) (bn s i) : Int)
    rw [upto_n c s h i, bt_bn, byte_n _ _ (cupto_lt c s h i) (bn_lt s i)]
/-- The check of a text, on from another one. -/
def con (c : Nat) (s : ByteArray) : Nat := (cupto (c ^^^ 4294967295) s s.size) ^^^ 4294967295
theorem con_lt (c : Nat) (s : ByteArray) (h : c < 4294967296) : con c s < 4294967296 :=
  Nat.xor_lt_two_pow (n := 32) (cupto_lt _ _ (Nat.xor_lt_two_pow (n := 32) h (by decide)) _) (by decide)
theorem On_n (c : Nat) (s : ByteArray) (h : c < 4294967296) (hs : s.size ≤ 1000000) : check_On.f (c : Int) s = some (con c s : Int) := by
  have h1 : c ^^^ 4294967295 < 4294967296 := Nat.xor_lt_two_pow (n := 32) h (by decide)
  unfold check_On.f con
  rw [if_pos (fits_small hs)]
  have e1 : Go.bits .xor .u32 (c : Int) 4294967295 = ((c ^^^ 4294967295 : Nat) : Int) := x32 c 4294967295 h (by decide)
  rw [e1, upto_n _ _ h1]
  exact congrArg some (x32 _ 4294967295 (cupto_lt _ _ h1 _) (by decide))
theorem Of_n (s : ByteArray) (hs : s.size ≤ 1000000) : check_Of.f s = some (con 0 s : Int) := by
  unfold check_Of.f
  rw [show (0 : Int) = ((0 : Nat) : Int) from rfl, On_n 0 s (by decide) hs]
  rfl
theorem cupto_congr (c : Nat) (s t : ByteArray) : ∀ n, (∀ i, i < n → bn s i = bn t i) → cupto c s n = cupto c t n
  | 0, _ => rfl
  | n + 1, h => by
    show cbyte (cupto c s n) (bn s n) = cbyte (cupto c t n) (bn t n)
    rw [cupto_congr c s t n (fun i hi => h i (by omega)), h n (by omega)]
theorem cupto_add (c : Nat) (s t : ByteArray) (n : Nat) : ∀ m, (∀ i, i < m → bn s (n + i) = bn t i) → cupto c s (n + m) = cupto (cupto c s n) t m
  | 0, _ => rfl
  | m + 1, h => by
    show cbyte (cupto c s (n + m)) (bn s (n + m)) = cbyte (cupto (cupto c s n) t m) (bn t m)
    rw [cupto_add c s t n m (fun i hi => h i (by omega)), h m (by omega)]
theorem bn_left (s t : ByteArray) (i : Nat) (h : i < s.size) : bn (s ++ t) i = bn s i := by
  have h2 : i < s.data.toList.length := by rw [Array.length_toList]; exact h
  unfold bn
  rw [ByteArray.data_append, Array.toList_append, List.getD_eq_getElem?_getD, List.getElem?_append_left h2, ← List.getD_eq_getElem?_getD]
theorem bn_right (s t : ByteArray) (i : Nat) : bn (s ++ t) (s.size + i) = bn t i := by
  have h2 : s.data.toList.length = s.size := by rw [Array.length_toList]; rfl
  unfold bn
  rw [ByteArray.data_append, Array.toList_append, List.getD_eq_getElem?_getD, List.getElem?_append_right (by omega), h2, Nat.add_sub_cancel_left, ← List.getD_eq_getElem?_getD]
theorem con_app (c : Nat) (s t : ByteArray) : con (con c s) t = con c (s ++ t) := by
  unfold con
  have e : ∀ v : Nat, v ^^^ 4294967295 ^^^ 4294967295 = v := fun v => by rw [Nat.xor_assoc, Nat.xor_self, Nat.xor_zero]
  rw [e, ByteArray.size_append, cupto_add _ (s ++ t) t s.size t.size (fun i _ => bn_right s t i), cupto_congr _ (s ++ t) s s.size (fun i hi => bn_left s t i hi)]
theorem alive_f : tarrylaw02_alive.f = some true := by
  unfold tarrylaw02_alive.f
  rw [Of_n _ (by decide)]
  decide +kernel
theorem take_size (a : ByteArray) (n : Int) (h : n ≤ 200) : (a.extract 0 n.toNat).size ≤ 200 := by
  rw [ByteArray.size_extract]
  omega
theorem CheckGoes : tarrylaw02_CheckGoes.Pure := by
  intro a0 a1 a2 _ _ _
  have m0 := mn_nonneg (a := (a0.size : Int)) (b := 200) (by omega) (by decide)
  have m1 := mn_nonneg (a := (a1.size : Int)) (b := 200) (by omega) (by decide)
  have m2 := mn_nonneg (a := (a2.size : Int)) (b := 200) (by omega) (by decide)
  unfold tarrylaw02_CheckGoes.f
  rw [if_pos m0, if_pos (mn_le_left _ _), if_pos m1, if_pos (mn_le_left _ _), if_pos m2, if_pos (mn_le_left _ _), alive_f]
  have z0 := take_size a0 _ (mn_le_right (a0.size : Int) 200)
  have z1 := take_size a1 _ (mn_le_right (a1.size : Int) 200)
  have z2 := take_size a2 _ (mn_le_right (a2.size : Int) 200)
  clear m0 m1 m2
  generalize a0.extract 0 (mn (a0.size : Int) 200).toNat = s at *
  generalize a1.extract 0 (mn (a1.size : Int) 200).toNat = t at *
  generalize a2.extract 0 (mn (a2.size : Int) 200).toNat = u at *
  have hst : (s ++ t).size ≤ 400 := by rw [ByteArray.size_append]; omega
  have hstu : (s ++ t ++ u).size ≤ 600 := by rw [ByteArray.size_append]; omega
  have l0 := con_lt 0 s (by decide)
  have l1 := con_lt (con 0 s) t l0
  have e1 := con_app 0 s t
  have e2 := con_app 0 (s ++ t) u
  have e3 : con (con 0 s) (⟨#[]⟩ : ByteArray) = con 0 s := by
    have : ∀ v : Nat, v ^^^ 4294967295 ^^^ 4294967295 = v := fun v => by rw [Nat.xor_assoc, Nat.xor_self, Nat.xor_zero]
    exact this _
  have i1 : s.size + t.size ≤ 9223372036854775807 := by omega
  have i2 : (s ++ t).size + u.size ≤ 9223372036854775807 := by omega
  simp only [Option.bind_some, if_true, Of_n s (by omega), On_n _ t l0 (by omega), On_n _ u (con_lt 0 (s ++ t) (by decide)) (by omega), Of_n _ (show (s ++ t).size ≤ 1000000 by omega), Of_n _ (show (s ++ t ++ u).size ≤ 1000000 by omega), On_n _ (⟨#[]⟩ : ByteArray) l0 (by decide), if_pos i1, if_pos i2, e1, e2, e3, beq_self_eq_true]
end Go.Proofs.Ytadmbihghbfdbaa.Pure
