/- Written by a program of this repo: what the program's functions do, each as a Lean function, shown of the loaded code; or a statement's row over that; no condition of its own. -/
import Derived.Test.YtoiihpmncphplaaPGoodsKnowx0
namespace Go.Proofs.Ytoiihpmncphplaa.PGoodsKnow
open Go Go.RowKit Go.Proofs.YtoiihpmncphplaaV
set_option linter.unusedVariables false
set_option linter.unusedSimpArgs false

def tarrylaw07_few.r5 (k : Nat) (l0_1 : List S22) (l82 : List ByteArray) : List S22 → (List S22) → Option (List ByteArray × List S22)
  | [], l342 => (some (l82, l342))
  | x367 :: xsi339, l342 => ((tarrylaw07_cut.f x367.f0 x367.f1 x367.f2 x367.f3 x367.f4).bind fun ⟨t371, t372, t373, t374, t375⟩ => (if (l342.length + ([(⟨t371, t372, t373, t374, t375⟩ : S22)] : List S22).length) * 56 ≤ 140737488355328 then (tarrylaw07_few.r5 k l0_1 l82 xsi339 (l342 ++ ([(⟨t371, t372, t373, t374, t375⟩ : S22)] : List S22))) else none))
set_option maxHeartbeats 1000000 in
theorem tarrylaw07_few.r5_eq (k : Nat) (l0_1 : List S22) (l82 : List ByteArray)  (hs : ((l0_1.take ((mn (l0_1.length : Int) 18).toNat)).drop 0).length < 4611686018427387904) : ∀ (m i339 : Nat) (l342 : List S22), ((l0_1.take ((mn (l0_1.length : Int) 18).toNat)).drop 0).length < m + i339 → i339 ≤ ((l0_1.take ((mn (l0_1.length : Int) 18).toNat)).drop 0).length → tarrylaw07_few.l5 k l0_1 l82 m (i339 : Int) l342 = tarrylaw07_few.r5 k l0_1 l82 (((l0_1.take ((mn (l0_1.length : Int) 18).toNat)).drop 0).drop i339) l342 := by
  intro m
  induction m with
  | zero => intro i339 l342 h hi; omega
  | succ m ih =>
    intro i339 l342 h hi
    by_cases hc : i339 < ((l0_1.take ((mn (l0_1.length : Int) 18).toNat)).drop 0).length
    · have hw : wrap64 ((i339 : Int) + 1) = ((i339 + 1 : Nat) : Int) := by unfold wrap64; omega
      have hg : ((l0_1.take ((mn (l0_1.length : Int) 18).toNat)).drop 0)[(i339 : Int).toNat]? = some ((l0_1.take ((mn (l0_1.length : Int) 18).toNat)).drop 0)[i339] := by rw [Int.toNat_natCast]; exact List.getElem?_eq_getElem hc
      have ih2 := fun l342 => ih (i339 + 1) l342 (by omega) (by omega)
      rw [List.drop_eq_getElem_cons hc, tarrylaw07_few.l5, tarrylaw07_few.r5, if_pos (by omega), if_pos (by omega), hg, Option.bind_some]
      simp only [hw, ih2]
    · rw [List.drop_of_length_le (by omega), tarrylaw07_few.l5, tarrylaw07_few.r5, if_neg (by omega)]
def tarrylaw07_few.r1 (k : Nat) (l0_0 : List ByteArray) (l0_1 : List S22) : List ByteArray → (List ByteArray) → Option (List ByteArray × List S22)
  | [], l82 => (if 0 ≤ mn (l0_1.length : Int) 18 then (if (mn (l0_1.length : Int) 18) ≤ (l0_1.length : Int) then (tarrylaw07_few.r5 k l0_1 l82 ((l0_1.take ((mn (l0_1.length : Int) 18).toNat)).drop 0) ([] : List S22)) else none) else none)
  | x240 :: xsi79, l82 => (if 0 ≤ mn (x240.size : Int) 18 then (if (mn (x240.size : Int) 18) ≤ (x240.size : Int) then (if (l82.length + ([x240.extract 0 ((mn (x240.size : Int) 18).toNat)] : List ByteArray).length) * 16 ≤ 140737488355328 then (tarrylaw07_few.r1 k l0_0 l0_1 xsi79 (l82 ++ ([x240.extract 0 ((mn (x240.size : Int) 18).toNat)] : List ByteArray))) else none) else none) else none)
set_option maxHeartbeats 1000000 in
theorem tarrylaw07_few.r1_eq (k : Nat) (l0_0 : List ByteArray) (l0_1 : List S22) (hl5_0 : ((l0_1.take ((mn (l0_1.length : Int) 18).toNat)).drop 0).length < k ∧ ((l0_1.take ((mn (l0_1.length : Int) 18).toNat)).drop 0).length < 4611686018427387904) (hs : ((l0_0.take ((mn (l0_0.length : Int) 10).toNat)).drop 0).length < 4611686018427387904) : ∀ (m i79 : Nat) (l82 : List ByteArray), ((l0_0.take ((mn (l0_0.length : Int) 10).toNat)).drop 0).length < m + i79 → i79 ≤ ((l0_0.take ((mn (l0_0.length : Int) 10).toNat)).drop 0).length → tarrylaw07_few.l1 k l0_0 l0_1 m (i79 : Int) l82 = tarrylaw07_few.r1 k l0_0 l0_1 (((l0_0.take ((mn (l0_0.length : Int) 10).toNat)).drop 0).drop i79) l82 := by
  intro m
  induction m with
  | zero => intro i79 l82 h hi; omega
  | succ m ih =>
    intro i79 l82 h hi
    by_cases hc : i79 < ((l0_0.take ((mn (l0_0.length : Int) 10).toNat)).drop 0).length
    · have hw : wrap64 ((i79 : Int) + 1) = ((i79 + 1 : Nat) : Int) := by unfold wrap64; omega
      have hg : ((l0_0.take ((mn (l0_0.length : Int) 10).toNat)).drop 0)[(i79 : Int).toNat]? = some ((l0_0.take ((mn (l0_0.length : Int) 10).toNat)).drop 0)[i79] := by rw [Int.toNat_natCast]; exact List.getElem?_eq_getElem hc
      have ih2 := fun l82 => ih (i79 + 1) l82 (by omega) (by omega)
      rw [List.drop_eq_getElem_cons hc, tarrylaw07_few.l1, tarrylaw07_few.r1, if_pos (by omega), if_pos (by omega), hg, Option.bind_some]
      have el5 : ∀ (l82 : List ByteArray) (l342 : List S22), tarrylaw07_few.l5 k l0_1 l82 k 0 l342 = tarrylaw07_few.r5 k l0_1 l82 ((l0_1.take ((mn (l0_1.length : Int) 18).toNat)).drop 0) l342 := fun l82 l342 => tarrylaw07_few.r5_eq k l0_1 l82 (hl5_0).2 k 0 l342 (by have := (hl5_0).1; omega) (Nat.zero_le _)
      simp only [el5, hw, ih2]
    · rw [List.drop_of_length_le (by omega), tarrylaw07_few.l1, tarrylaw07_few.r1, if_neg (by omega)]
      have el5 : ∀ (l82 : List ByteArray) (l342 : List S22), tarrylaw07_few.l5 k l0_1 l82 k 0 l342 = tarrylaw07_few.r5 k l0_1 l82 ((l0_1.take ((mn (l0_1.length : Int) 18).toNat)).drop 0) l342 := fun l82 l342 => tarrylaw07_few.r5_eq k l0_1 l82 (hl5_0).2 k 0 l342 (by have := (hl5_0).1; omega) (Nat.zero_le _)
      try simp only [el5]
      try simp only [Int.natCast_zero]
def slices_IndexFunc_api_Sub_api_Sub.r1 (k : Nat) (a1_0_0 : ByteArray) (a1_0_1 : ByteArray) (a1_0_2 : Int) (a1_0_3 : Int) (a1_0_4 : Int) (l0 : List S22) : List S22 → Nat → Option (Int)
  | [], i488 => (some (-1))
  | x517 :: xsi488, i488 => ((goods_Right_1.f x517.f0 x517.f1 x517.f2 x517.f3 x517.f4 a1_0_0 a1_0_1 a1_0_2 a1_0_3 a1_0_4).bind fun t520 => (if t520 = true then (some (i488 : Int)) else (slices_IndexFunc_api_Sub_api_Sub.r1 k a1_0_0 a1_0_1 a1_0_2 a1_0_3 a1_0_4 l0 xsi488 (i488 + 1))))
set_option maxHeartbeats 1000000 in
theorem slices_IndexFunc_api_Sub_api_Sub.r1_eq (k : Nat) (a1_0_0 : ByteArray) (a1_0_1 : ByteArray) (a1_0_2 : Int) (a1_0_3 : Int) (a1_0_4 : Int) (l0 : List S22)  (hs : l0.length < 4611686018427387904) : ∀ (m i488 : Nat), l0.length < m + i488 → i488 ≤ l0.length → slices_IndexFunc_api_Sub_api_Sub.l1 k a1_0_0 a1_0_1 a1_0_2 a1_0_3 a1_0_4 l0 m (i488 : Int) = slices_IndexFunc_api_Sub_api_Sub.r1 k a1_0_0 a1_0_1 a1_0_2 a1_0_3 a1_0_4 l0 (l0.drop i488) i488 := by
  intro m
  induction m with
  | zero => intro i488 h hi; omega
  | succ m ih =>
    intro i488 h hi
    by_cases hc : i488 < l0.length
    · have hw : wrap64 ((i488 : Int) + 1) = ((i488 + 1 : Nat) : Int) := by unfold wrap64; omega
      have hg : l0[(i488 : Int).toNat]? = some l0[i488] := by rw [Int.toNat_natCast]; exact List.getElem?_eq_getElem hc
      have ih2 := ih (i488 + 1) (by omega) (by omega)
      rw [List.drop_eq_getElem_cons hc, slices_IndexFunc_api_Sub_api_Sub.l1, slices_IndexFunc_api_Sub_api_Sub.r1, if_pos (by omega), if_pos (by omega), hg, Option.bind_some]
      simp only [hw, ih2]
    · rw [List.drop_of_length_le (by omega), slices_IndexFunc_api_Sub_api_Sub.l1, slices_IndexFunc_api_Sub_api_Sub.r1, if_neg (by omega)]
def slices_IndexFunc_byte_byte.r1 (k : Nat) (l0 : List Int) : List Int → Nat → Option (Int)
  | [], i624 => (some (-1))
  | x653 :: xsi624, i624 => ((goods_name_1.f x653).bind fun t656 => (if t656 = true then (some (i624 : Int)) else (slices_IndexFunc_byte_byte.r1 k l0 xsi624 (i624 + 1))))
set_option maxHeartbeats 1000000 in
theorem slices_IndexFunc_byte_byte.r1_eq (k : Nat) (l0 : List Int)  (hs : l0.length < 4611686018427387904) : ∀ (m i624 : Nat), l0.length < m + i624 → i624 ≤ l0.length → slices_IndexFunc_byte_byte.l1 k l0 m (i624 : Int) = slices_IndexFunc_byte_byte.r1 k l0 (l0.drop i624) i624 := by
  intro m
  induction m with
  | zero => intro i624 h hi; omega
  | succ m ih =>
    intro i624 h hi
    by_cases hc : i624 < l0.length
    · have hw : wrap64 ((i624 : Int) + 1) = ((i624 + 1 : Nat) : Int) := by unfold wrap64; omega
      have hg : l0[(i624 : Int).toNat]? = some l0[i624] := by rw [Int.toNat_natCast]; exact List.getElem?_eq_getElem hc
      have ih2 := ih (i624 + 1) (by omega) (by omega)
      rw [List.drop_eq_getElem_cons hc, slices_IndexFunc_byte_byte.l1, slices_IndexFunc_byte_byte.r1, if_pos (by omega), if_pos (by omega), hg, Option.bind_some]
      simp only [hw, ih2]
    · rw [List.drop_of_length_le (by omega), slices_IndexFunc_byte_byte.l1, slices_IndexFunc_byte_byte.r1, if_neg (by omega)]
def slices_Index_string_string.r1 (k : Nat) (a1 : ByteArray) (l0 : List ByteArray) : List ByteArray → Nat → Option (Int)
  | [], i775 => (some (-1))
  | x801 :: xsi775, i775 => (if (a1 == x801) = true then (some (i775 : Int)) else (slices_Index_string_string.r1 k a1 l0 xsi775 (i775 + 1)))
set_option maxHeartbeats 1000000 in
theorem slices_Index_string_string.r1_eq (k : Nat) (a1 : ByteArray) (l0 : List ByteArray)  (hs : l0.length < 4611686018427387904) : ∀ (m i775 : Nat), l0.length < m + i775 → i775 ≤ l0.length → slices_Index_string_string.l1 k a1 l0 m (i775 : Int) = slices_Index_string_string.r1 k a1 l0 (l0.drop i775) i775 := by
  intro m
  induction m with
  | zero => intro i775 h hi; omega
  | succ m ih =>
    intro i775 h hi
    by_cases hc : i775 < l0.length
    · have hw : wrap64 ((i775 : Int) + 1) = ((i775 + 1 : Nat) : Int) := by unfold wrap64; omega
      have hg : l0[(i775 : Int).toNat]? = some l0[i775] := by rw [Int.toNat_natCast]; exact List.getElem?_eq_getElem hc
      have ih2 := ih (i775 + 1) (by omega) (by omega)
      rw [List.drop_eq_getElem_cons hc, slices_Index_string_string.l1, slices_Index_string_string.r1, if_pos (by omega), if_pos (by omega), hg, Option.bind_some]
      simp only [hw, ih2]
    · rw [List.drop_of_length_le (by omega), slices_Index_string_string.l1, slices_Index_string_string.r1, if_neg (by omega)]
def slices_IndexFunc_string_string.r1 (k : Nat) (l0 : List ByteArray) : List ByteArray → Nat → Option (Int)
  | [], i1181 => (some (-1))
  | x1210 :: xsi1181, i1181 => ((goods_Right_2.f k x1210).bind fun t1213 => (if t1213 = true then (some (i1181 : Int)) else (slices_IndexFunc_string_string.r1 k l0 xsi1181 (i1181 + 1))))
set_option maxHeartbeats 1000000 in
theorem slices_IndexFunc_string_string.r1_eq (k : Nat) (l0 : List ByteArray)  (hs : l0.length < 4611686018427387904) : ∀ (m i1181 : Nat), l0.length < m + i1181 → i1181 ≤ l0.length → slices_IndexFunc_string_string.l1 k l0 m (i1181 : Int) = slices_IndexFunc_string_string.r1 k l0 (l0.drop i1181) i1181 := by
  intro m
  induction m with
  | zero => intro i1181 h hi; omega
  | succ m ih =>
    intro i1181 h hi
    by_cases hc : i1181 < l0.length
    · have hw : wrap64 ((i1181 : Int) + 1) = ((i1181 + 1 : Nat) : Int) := by unfold wrap64; omega
      have hg : l0[(i1181 : Int).toNat]? = some l0[i1181] := by rw [Int.toNat_natCast]; exact List.getElem?_eq_getElem hc
      have ih2 := ih (i1181 + 1) (by omega) (by omega)
      rw [List.drop_eq_getElem_cons hc, slices_IndexFunc_string_string.l1, slices_IndexFunc_string_string.r1, if_pos (by omega), if_pos (by omega), hg, Option.bind_some]
      simp only [hw, ih2]
    · rw [List.drop_of_length_le (by omega), slices_IndexFunc_string_string.l1, slices_IndexFunc_string_string.r1, if_neg (by omega)]
-- goods_rising_string.l1: another shape
def cmp_Or_int.r1 (k : Nat) (l0 : List Int) : List Int → Option (Int)
  | [] => (some 0)
  | x1476 :: xsi1450 => (if x1476 = 0 then (cmp_Or_int.r1 k l0 xsi1450) else (some x1476))
set_option maxHeartbeats 1000000 in
theorem cmp_Or_int.r1_eq (k : Nat) (l0 : List Int)  (hs : l0.length < 4611686018427387904) : ∀ (m i1450 : Nat), l0.length < m + i1450 → i1450 ≤ l0.length → cmp_Or_int.l1 k l0 m (i1450 : Int) = cmp_Or_int.r1 k l0 (l0.drop i1450) := by
  intro m
  induction m with
  | zero => intro i1450 h hi; omega
  | succ m ih =>
    intro i1450 h hi
    by_cases hc : i1450 < l0.length
    · have hw : wrap64 ((i1450 : Int) + 1) = ((i1450 + 1 : Nat) : Int) := by unfold wrap64; omega
      have hg : l0[(i1450 : Int).toNat]? = some l0[i1450] := by rw [Int.toNat_natCast]; exact List.getElem?_eq_getElem hc
      have ih2 := ih (i1450 + 1) (by omega) (by omega)
      rw [List.drop_eq_getElem_cons hc, cmp_Or_int.l1, cmp_Or_int.r1, if_pos (by omega), if_pos (by omega), hg, Option.bind_some]
      simp only [hw, ih2]
    · rw [List.drop_of_length_le (by omega), cmp_Or_int.l1, cmp_Or_int.r1, if_neg (by omega)]
-- goods_rising_Sub.l1: another shape
def goods_Right.r1 (k : Nat) (l0_0 : List ByteArray) (l0_1 : List S22) : List S22 → Nat → Option (Bool)
  | [], i1042 => ((slices_ContainsFunc_string_string.f k l0_0).bind fun t1667 => (if t1667 = true then (some false) else ((goods_rising_string.f k l0_0 8).bind fun t1675 => (if t1675 = true then ((goods_rising_Sub.f k l0_1 16).bind fun t1678 => (some t1678)) else (some false)))))
  | x1635 :: xsi1042, i1042 => (if (i1042 : Int) ≤ (l0_1.length : Int) then ((slices_ContainsFunc_api_Sub_api_Sub.f k ((l0_1.take (i1042 : Int).toNat).drop 0) x1635.f0 x1635.f1 x1635.f2 x1635.f3 x1635.f4).bind fun t1642 => (if t1642 = true then (some false) else ((goods_may.f k x1635.f0 x1635.f1 x1635.f2 x1635.f3 x1635.f4).bind fun t1655 => (if t1655 = true then ((slices_Contains_string_string.f k l0_0 x1635.f0).bind fun t1658 => (if t1658 = true then ((slices_Contains_string_string.f k l0_0 x1635.f1).bind fun t1661 => (if t1661 = true then (goods_Right.r1 k l0_0 l0_1 xsi1042 (i1042 + 1)) else (some false))) else (some false))) else (some false))))) else none)
set_option maxHeartbeats 1000000 in
theorem goods_Right.r1_eq (k : Nat) (l0_0 : List ByteArray) (l0_1 : List S22)  (hs : l0_1.length < 4611686018427387904) : ∀ (m i1042 : Nat), l0_1.length < m + i1042 → i1042 ≤ l0_1.length → goods_Right.l1 k l0_0 l0_1 m (i1042 : Int) = goods_Right.r1 k l0_0 l0_1 (l0_1.drop i1042) i1042 := by
  intro m
  induction m with
  | zero => intro i1042 h hi; omega
  | succ m ih =>
    intro i1042 h hi
    by_cases hc : i1042 < l0_1.length
    · have hw : wrap64 ((i1042 : Int) + 1) = ((i1042 + 1 : Nat) : Int) := by unfold wrap64; omega
      have hg : l0_1[(i1042 : Int).toNat]? = some l0_1[i1042] := by rw [Int.toNat_natCast]; exact List.getElem?_eq_getElem hc
      have ih2 := ih (i1042 + 1) (by omega) (by omega)
      rw [List.drop_eq_getElem_cons hc, goods_Right.l1, goods_Right.r1, if_pos (by omega), if_pos (by omega), hg, Option.bind_some]
      simp only [hw, ih2]
    · rw [List.drop_of_length_le (by omega), goods_Right.l1, goods_Right.r1, if_neg (by omega)]
-- slices_BinarySearchFunc_string_string_string.l1: no index
def slices_IndexFunc_api_Sub_api_Sub_s30.r1 (k : Nat) (a1_0_0 : ByteArray) (a1_0_1 : ByteArray) (a1_0_2 : Int) (a1_0_3 : Int) (a1_0_4 : Int) (l0 : List S22) : List S22 → Nat → Option (Int)
  | [], i2031 => (some (-1))
  | x2060 :: xsi2031, i2031 => ((goods_Rule_1.f x2060.f0 x2060.f1 x2060.f2 x2060.f3 x2060.f4 a1_0_0 a1_0_1 a1_0_2 a1_0_3 a1_0_4).bind fun t2063 => (if t2063 = true then (some (i2031 : Int)) else (slices_IndexFunc_api_Sub_api_Sub_s30.r1 k a1_0_0 a1_0_1 a1_0_2 a1_0_3 a1_0_4 l0 xsi2031 (i2031 + 1))))
set_option maxHeartbeats 1000000 in
theorem slices_IndexFunc_api_Sub_api_Sub_s30.r1_eq (k : Nat) (a1_0_0 : ByteArray) (a1_0_1 : ByteArray) (a1_0_2 : Int) (a1_0_3 : Int) (a1_0_4 : Int) (l0 : List S22)  (hs : l0.length < 4611686018427387904) : ∀ (m i2031 : Nat), l0.length < m + i2031 → i2031 ≤ l0.length → slices_IndexFunc_api_Sub_api_Sub_s30.l1 k a1_0_0 a1_0_1 a1_0_2 a1_0_3 a1_0_4 l0 m (i2031 : Int) = slices_IndexFunc_api_Sub_api_Sub_s30.r1 k a1_0_0 a1_0_1 a1_0_2 a1_0_3 a1_0_4 l0 (l0.drop i2031) i2031 := by
  intro m
  induction m with
  | zero => intro i2031 h hi; omega
  | succ m ih =>
    intro i2031 h hi
    by_cases hc : i2031 < l0.length
    · have hw : wrap64 ((i2031 : Int) + 1) = ((i2031 + 1 : Nat) : Int) := by unfold wrap64; omega
      have hg : l0[(i2031 : Int).toNat]? = some l0[i2031] := by rw [Int.toNat_natCast]; exact List.getElem?_eq_getElem hc
      have ih2 := ih (i2031 + 1) (by omega) (by omega)
      rw [List.drop_eq_getElem_cons hc, slices_IndexFunc_api_Sub_api_Sub_s30.l1, slices_IndexFunc_api_Sub_api_Sub_s30.r1, if_pos (by omega), if_pos (by omega), hg, Option.bind_some]
      simp only [hw, ih2]
    · rw [List.drop_of_length_le (by omega), slices_IndexFunc_api_Sub_api_Sub_s30.l1, slices_IndexFunc_api_Sub_api_Sub_s30.r1, if_neg (by omega)]
-- slices_BinarySearchFunc_api_Sub_api_Sub_api_Sub.l1: no index
def slices_IndexFunc_api_Sub_api_Sub_s38.r1 (k : Nat) (a1_0_0 : ByteArray) (l0 : List S22) : List S22 → Nat → Option (Int)
  | [], i2422 => (some (-1))
  | x2451 :: xsi2422, i2422 => ((goods_For_1.f x2451.f0 x2451.f1 x2451.f2 x2451.f3 x2451.f4 a1_0_0).bind fun t2454 => (if t2454 = true then (some (i2422 : Int)) else (slices_IndexFunc_api_Sub_api_Sub_s38.r1 k a1_0_0 l0 xsi2422 (i2422 + 1))))
set_option maxHeartbeats 1000000 in
theorem slices_IndexFunc_api_Sub_api_Sub_s38.r1_eq (k : Nat) (a1_0_0 : ByteArray) (l0 : List S22)  (hs : l0.length < 4611686018427387904) : ∀ (m i2422 : Nat), l0.length < m + i2422 → i2422 ≤ l0.length → slices_IndexFunc_api_Sub_api_Sub_s38.l1 k a1_0_0 l0 m (i2422 : Int) = slices_IndexFunc_api_Sub_api_Sub_s38.r1 k a1_0_0 l0 (l0.drop i2422) i2422 := by
  intro m
  induction m with
  | zero => intro i2422 h hi; omega
  | succ m ih =>
    intro i2422 h hi
    by_cases hc : i2422 < l0.length
    · have hw : wrap64 ((i2422 : Int) + 1) = ((i2422 + 1 : Nat) : Int) := by unfold wrap64; omega
      have hg : l0[(i2422 : Int).toNat]? = some l0[i2422] := by rw [Int.toNat_natCast]; exact List.getElem?_eq_getElem hc
      have ih2 := ih (i2422 + 1) (by omega) (by omega)
      rw [List.drop_eq_getElem_cons hc, slices_IndexFunc_api_Sub_api_Sub_s38.l1, slices_IndexFunc_api_Sub_api_Sub_s38.r1, if_pos (by omega), if_pos (by omega), hg, Option.bind_some]
      simp only [hw, ih2]
    · rw [List.drop_of_length_le (by omega), slices_IndexFunc_api_Sub_api_Sub_s38.l1, slices_IndexFunc_api_Sub_api_Sub_s38.r1, if_neg (by omega)]
-- tarryref07_Name.l1: another shape
-- tarryref07_Less.l1: another shape
def tarryref07_Has.r1 (k : Nat) (a1 : ByteArray) (l0 : List ByteArray) : List ByteArray → Option (Bool)
  | [] => (some false)
  | x3306 :: xsi3280 => (if (x3306 == a1) = true then (some true) else (tarryref07_Has.r1 k a1 l0 xsi3280))
set_option maxHeartbeats 1000000 in
theorem tarryref07_Has.r1_eq (k : Nat) (a1 : ByteArray) (l0 : List ByteArray)  (hs : l0.length < 4611686018427387904) : ∀ (m i3280 : Nat), l0.length < m + i3280 → i3280 ≤ l0.length → tarryref07_Has.l1 k a1 l0 m (i3280 : Int) = tarryref07_Has.r1 k a1 l0 (l0.drop i3280) := by
  intro m
  induction m with
  | zero => intro i3280 h hi; omega
  | succ m ih =>
    intro i3280 h hi
    by_cases hc : i3280 < l0.length
    · have hw : wrap64 ((i3280 : Int) + 1) = ((i3280 + 1 : Nat) : Int) := by unfold wrap64; omega
      have hg : l0[(i3280 : Int).toNat]? = some l0[i3280] := by rw [Int.toNat_natCast]; exact List.getElem?_eq_getElem hc
      have ih2 := ih (i3280 + 1) (by omega) (by omega)
      rw [List.drop_eq_getElem_cons hc, tarryref07_Has.l1, tarryref07_Has.r1, if_pos (by omega), if_pos (by omega), hg, Option.bind_some]
      simp only [hw, ih2]
    · rw [List.drop_of_length_le (by omega), tarryref07_Has.l1, tarryref07_Has.r1, if_neg (by omega)]
def tarryref07_Right.r32 (k : Nat) (rec_l29 : Option (Bool)) (i8885 : Int) (l0_1 : List S22) (x9508 : S22) : List S22 → Option (Bool)
  | [] => rec_l29
  | x9616 :: xsi9572 => (if (x9616.f0 == x9508.f0) = true then (if (x9616.f1 == x9508.f1) = true then (some false) else (tarryref07_Right.r32 k rec_l29 i8885 l0_1 x9508 xsi9572)) else (tarryref07_Right.r32 k rec_l29 i8885 l0_1 x9508 xsi9572))
set_option maxHeartbeats 1000000 in
theorem tarryref07_Right.r32_eq (k : Nat) (rec_l29 : Int → Option (Bool)) (i8885 : Int) (l0_1 : List S22) (x9508 : S22)  (hs : ((l0_1.take i8885.toNat).drop 0).length < 4611686018427387904) : ∀ (m i9572 : Nat), ((l0_1.take i8885.toNat).drop 0).length < m + i9572 → i9572 ≤ ((l0_1.take i8885.toNat).drop 0).length → tarryref07_Right.l32 k rec_l29 i8885 l0_1 x9508 m (i9572 : Int) = tarryref07_Right.r32 k (rec_l29 (wrap64 (i8885 + 1))) i8885 l0_1 x9508 (((l0_1.take i8885.toNat).drop 0).drop i9572) := by
  intro m
  induction m with
  | zero => intro i9572 h hi; omega
  | succ m ih =>
    intro i9572 h hi
    by_cases hc : i9572 < ((l0_1.take i8885.toNat).drop 0).length
    · have hw : wrap64 ((i9572 : Int) + 1) = ((i9572 + 1 : Nat) : Int) := by unfold wrap64; omega
      have hg : ((l0_1.take i8885.toNat).drop 0)[(i9572 : Int).toNat]? = some ((l0_1.take i8885.toNat).drop 0)[i9572] := by rw [Int.toNat_natCast]; exact List.getElem?_eq_getElem hc
      have ih2 := ih (i9572 + 1) (by omega) (by omega)
      rw [List.drop_eq_getElem_cons hc, tarryref07_Right.l32, tarryref07_Right.r32, if_pos (by omega), if_pos (by omega), hg, Option.bind_some]
      simp only [hw, ih2]
    · rw [List.drop_of_length_le (by omega), tarryref07_Right.l32, tarryref07_Right.r32, if_neg (by omega)]
      try simp only [Int.natCast_zero]
def tarryref07_Right.r33 (k : Nat) (rec_l29 : Option (Bool)) (i8885 : Int) (l0_1 : List S22) (x9508 : S22) : List S22 → Option (Bool)
  | [] => rec_l29
  | x9699 :: xsi9655 => (if (x9699.f0 == x9508.f0) = true then (if (x9699.f1 == x9508.f1) = true then (some false) else (tarryref07_Right.r33 k rec_l29 i8885 l0_1 x9508 xsi9655)) else (tarryref07_Right.r33 k rec_l29 i8885 l0_1 x9508 xsi9655))
set_option maxHeartbeats 1000000 in
theorem tarryref07_Right.r33_eq (k : Nat) (rec_l29 : Int → Option (Bool)) (i8885 : Int) (l0_1 : List S22) (x9508 : S22)  (hs : ((l0_1.take i8885.toNat).drop 0).length < 4611686018427387904) : ∀ (m i9655 : Nat), ((l0_1.take i8885.toNat).drop 0).length < m + i9655 → i9655 ≤ ((l0_1.take i8885.toNat).drop 0).length → tarryref07_Right.l33 k rec_l29 i8885 l0_1 x9508 m (i9655 : Int) = tarryref07_Right.r33 k (rec_l29 (wrap64 (i8885 + 1))) i8885 l0_1 x9508 (((l0_1.take i8885.toNat).drop 0).drop i9655) := by
  intro m
  induction m with
  | zero => intro i9655 h hi; omega
  | succ m ih =>
    intro i9655 h hi
    by_cases hc : i9655 < ((l0_1.take i8885.toNat).drop 0).length
    · have hw : wrap64 ((i9655 : Int) + 1) = ((i9655 + 1 : Nat) : Int) := by unfold wrap64; omega
      have hg : ((l0_1.take i8885.toNat).drop 0)[(i9655 : Int).toNat]? = some ((l0_1.take i8885.toNat).drop 0)[i9655] := by rw [Int.toNat_natCast]; exact List.getElem?_eq_getElem hc
      have ih2 := ih (i9655 + 1) (by omega) (by omega)
      rw [List.drop_eq_getElem_cons hc, tarryref07_Right.l33, tarryref07_Right.r33, if_pos (by omega), if_pos (by omega), hg, Option.bind_some]
      simp only [hw, ih2]
    · rw [List.drop_of_length_le (by omega), tarryref07_Right.l33, tarryref07_Right.r33, if_neg (by omega)]
      try simp only [Int.natCast_zero]
def tarryref07_Right.r29 (k : Nat) (l0_0 : List ByteArray) (l0_1 : List S22) : List S22 → Nat → Option (Bool)
  | [], i8885 => (if (l0_0.length : Int) ≤ 8 then (some (decide ((l0_1.length : Int) ≤ 16))) else (some false))
  | x9508 :: xsi8885, i8885 => ((tarryref07_May.f k x9508.f0 x9508.f1 x9508.f2 x9508.f3 x9508.f4).bind fun t9528 => (if t9528 = true then ((tarryref07_Has.f k l0_0 x9508.f0).bind fun t9531 => (if t9531 = true then ((tarryref07_Has.f k l0_0 x9508.f1).bind fun t9534 => (if t9534 = true then (if (i8885 : Int) > 0 then (if 0 ≤ wrap64 ((i8885 : Int) - 1) then ((l0_1[(wrap64 ((i8885 : Int) - 1)).toNat]?).bind fun x9540 => ((tarryref07_above.f k x9508.f0 x9508.f1 x9508.f2 x9508.f3 x9508.f4 x9540.f0 x9540.f1 x9540.f2 x9540.f3 x9540.f4).bind fun t9541 => (if t9541 = true then (if (i8885 : Int) ≤ (l0_1.length : Int) then (tarryref07_Right.r32 k (tarryref07_Right.r29 k l0_0 l0_1 xsi8885 (i8885 + 1)) (i8885 : Int) l0_1 x9508 ((l0_1.take (i8885 : Int).toNat).drop 0)) else none) else (some false)))) else none) else (if (i8885 : Int) ≤ (l0_1.length : Int) then (tarryref07_Right.r33 k (tarryref07_Right.r29 k l0_0 l0_1 xsi8885 (i8885 + 1)) (i8885 : Int) l0_1 x9508 ((l0_1.take (i8885 : Int).toNat).drop 0)) else none)) else (some false))) else (some false))) else (some false)))
set_option maxHeartbeats 1000000 in
theorem tarryref07_Right.r29_eq (k : Nat) (l0_0 : List ByteArray) (l0_1 : List S22) (hl32_0 : ∀ i8885 : Nat, ((l0_1.take (i8885 : Int).toNat).drop 0).length < k ∧ ((l0_1.take (i8885 : Int).toNat).drop 0).length < 4611686018427387904) (hl33_0 : ∀ i8885 : Nat, ((l0_1.take (i8885 : Int).toNat).drop 0).length < k ∧ ((l0_1.take (i8885 : Int).toNat).drop 0).length < 4611686018427387904) (hs : l0_1.length < 4611686018427387904) : ∀ (m i8885 : Nat), l0_1.length < m + i8885 → i8885 ≤ l0_1.length → tarryref07_Right.l29 k l0_0 l0_1 m (i8885 : Int) = tarryref07_Right.r29 k l0_0 l0_1 (l0_1.drop i8885) i8885 := by
  intro m
  induction m with
  | zero => intro i8885 h hi; omega
  | succ m ih =>
    intro i8885 h hi
    by_cases hc : i8885 < l0_1.length
    · have hw : wrap64 ((i8885 : Int) + 1) = ((i8885 + 1 : Nat) : Int) := by unfold wrap64; omega
      have hg : l0_1[(i8885 : Int).toNat]? = some l0_1[i8885] := by rw [Int.toNat_natCast]; exact List.getElem?_eq_getElem hc
      have ih2 := ih (i8885 + 1) (by omega) (by omega)
      rw [List.drop_eq_getElem_cons hc, tarryref07_Right.l29, tarryref07_Right.r29, if_pos (by omega), if_pos (by omega), hg, Option.bind_some]
      have el32 : ∀ (rec_l29 : Int → Option (Bool)) (x9508 : S22), tarryref07_Right.l32 k rec_l29 (i8885 : Int) l0_1 x9508 k 0 = tarryref07_Right.r32 k (rec_l29 (wrap64 ((i8885 : Int) + 1))) (i8885 : Int) l0_1 x9508 ((l0_1.take (i8885 : Int).toNat).drop 0) := fun rec_l29 x9508 => tarryref07_Right.r32_eq k rec_l29 (i8885 : Int) l0_1 x9508 (hl32_0 i8885).2 k 0 (by have := (hl32_0 i8885).1; omega) (Nat.zero_le _)
      have el33 : ∀ (rec_l29 : Int → Option (Bool)) (x9508 : S22), tarryref07_Right.l33 k rec_l29 (i8885 : Int) l0_1 x9508 k 0 = tarryref07_Right.r33 k (rec_l29 (wrap64 ((i8885 : Int) + 1))) (i8885 : Int) l0_1 x9508 ((l0_1.take (i8885 : Int).toNat).drop 0) := fun rec_l29 x9508 => tarryref07_Right.r33_eq k rec_l29 (i8885 : Int) l0_1 x9508 (hl33_0 i8885).2 k 0 (by have := (hl33_0 i8885).1; omega) (Nat.zero_le _)
      simp only [el32, el33, hw, ih2]
    · rw [List.drop_of_length_le (by omega), tarryref07_Right.l29, tarryref07_Right.r29, if_neg (by omega)]
def tarryref07_Right.r23 (k : Nat) (l0_0 : List ByteArray) (l0_1 : List S22) : List ByteArray → Nat → Option (Bool)
  | [], i7537 => (tarryref07_Right.j22 k l0_0 l0_1)
  | x7617 :: xsi7537, i7537 => ((tarryref07_Name.f k x7617).bind fun t7630 => (if t7630 = true then (if (i7537 : Int) > 0 then (if 0 ≤ wrap64 ((i7537 : Int) - 1) then ((l0_0[(wrap64 ((i7537 : Int) - 1)).toNat]?).bind fun x7636 => ((tarryref07_Less.f k x7636 x7617).bind fun t7637 => (if t7637 = true then (tarryref07_Right.r23 k l0_0 l0_1 xsi7537 (i7537 + 1)) else (some false)))) else none) else (tarryref07_Right.r23 k l0_0 l0_1 xsi7537 (i7537 + 1))) else (some false)))
set_option maxHeartbeats 1000000 in
theorem tarryref07_Right.r23_eq (k : Nat) (l0_0 : List ByteArray) (l0_1 : List S22)  (hs : l0_0.length < 4611686018427387904) : ∀ (m i7537 : Nat), l0_0.length < m + i7537 → i7537 ≤ l0_0.length → tarryref07_Right.l23 k l0_0 l0_1 m (i7537 : Int) = tarryref07_Right.r23 k l0_0 l0_1 (l0_0.drop i7537) i7537 := by
  intro m
  induction m with
  | zero => intro i7537 h hi; omega
  | succ m ih =>
    intro i7537 h hi
    by_cases hc : i7537 < l0_0.length
    · have hw : wrap64 ((i7537 : Int) + 1) = ((i7537 + 1 : Nat) : Int) := by unfold wrap64; omega
      have hg : l0_0[(i7537 : Int).toNat]? = some l0_0[i7537] := by rw [Int.toNat_natCast]; exact List.getElem?_eq_getElem hc
      have ih2 := ih (i7537 + 1) (by omega) (by omega)
      rw [List.drop_eq_getElem_cons hc, tarryref07_Right.l23, tarryref07_Right.r23, if_pos (by omega), if_pos (by omega), hg, Option.bind_some]
      simp only [hw, ih2]
    · rw [List.drop_of_length_le (by omega), tarryref07_Right.l23, tarryref07_Right.r23, if_neg (by omega)]
def tarryref07_Like.r5 (k : Nat) (l0_1 : List S22) (l1_1 : List S22) : List S22 → Nat → Option (Bool)
  | [], i10014 => (some true)
  | x10037 :: xsi10014, i10014 => ((l1_1[(i10014 : Int).toNat]?).bind fun x10038 => (if (((x10037.f0 == x10038.f0) && ((x10037.f1 == x10038.f1) && ((x10037.f2 == x10038.f2) && ((x10037.f3 == x10038.f3) && (x10037.f4 == x10038.f4)))))) = true then (tarryref07_Like.r5 k l0_1 l1_1 xsi10014 (i10014 + 1)) else (some false)))
set_option maxHeartbeats 1000000 in
theorem tarryref07_Like.r5_eq (k : Nat) (l0_1 : List S22) (l1_1 : List S22)  (hs : l0_1.length < 4611686018427387904) : ∀ (m i10014 : Nat), l0_1.length < m + i10014 → i10014 ≤ l0_1.length → tarryref07_Like.l5 k l0_1 l1_1 m (i10014 : Int) = tarryref07_Like.r5 k l0_1 l1_1 (l0_1.drop i10014) i10014 := by
  intro m
  induction m with
  | zero => intro i10014 h hi; omega
  | succ m ih =>
    intro i10014 h hi
    by_cases hc : i10014 < l0_1.length
    · have hw : wrap64 ((i10014 : Int) + 1) = ((i10014 + 1 : Nat) : Int) := by unfold wrap64; omega
      have hg : l0_1[(i10014 : Int).toNat]? = some l0_1[i10014] := by rw [Int.toNat_natCast]; exact List.getElem?_eq_getElem hc
      have ih2 := ih (i10014 + 1) (by omega) (by omega)
      rw [List.drop_eq_getElem_cons hc, tarryref07_Like.l5, tarryref07_Like.r5, if_pos (by omega), if_pos (by omega), hg, Option.bind_some]
      simp only [hw, ih2]
    · rw [List.drop_of_length_le (by omega), tarryref07_Like.l5, tarryref07_Like.r5, if_neg (by omega)]
def tarryref07_Like.r1 (k : Nat) (l0_0 : List ByteArray) (l0_1 : List S22) (l1_0 : List ByteArray) (l1_1 : List S22) : List ByteArray → Nat → Option (Bool)
  | [], i9858 => (tarryref07_Like.r5 k l0_1 l1_1 l0_1 0)
  | x9961 :: xsi9858, i9858 => ((l1_0[(i9858 : Int).toNat]?).bind fun x9962 => (if (x9961 == x9962) = true then (tarryref07_Like.r1 k l0_0 l0_1 l1_0 l1_1 xsi9858 (i9858 + 1)) else (some false)))
set_option maxHeartbeats 1000000 in
theorem tarryref07_Like.r1_eq (k : Nat) (l0_0 : List ByteArray) (l0_1 : List S22) (l1_0 : List ByteArray) (l1_1 : List S22) (hl5_0 : l0_1.length < k ∧ l0_1.length < 4611686018427387904) (hs : l0_0.length < 4611686018427387904) : ∀ (m i9858 : Nat), l0_0.length < m + i9858 → i9858 ≤ l0_0.length → tarryref07_Like.l1 k l0_0 l0_1 l1_0 l1_1 m (i9858 : Int) = tarryref07_Like.r1 k l0_0 l0_1 l1_0 l1_1 (l0_0.drop i9858) i9858 := by
  intro m
  induction m with
  | zero => intro i9858 h hi; omega
  | succ m ih =>
    intro i9858 h hi
    by_cases hc : i9858 < l0_0.length
    · have hw : wrap64 ((i9858 : Int) + 1) = ((i9858 + 1 : Nat) : Int) := by unfold wrap64; omega
      have hg : l0_0[(i9858 : Int).toNat]? = some l0_0[i9858] := by rw [Int.toNat_natCast]; exact List.getElem?_eq_getElem hc
      have ih2 := ih (i9858 + 1) (by omega) (by omega)
      rw [List.drop_eq_getElem_cons hc, tarryref07_Like.l1, tarryref07_Like.r1, if_pos (by omega), if_pos (by omega), hg, Option.bind_some]
      have el5 : tarryref07_Like.l5 k l0_1 l1_1 k 0 = tarryref07_Like.r5 k l0_1 l1_1 l0_1 0 := tarryref07_Like.r5_eq k l0_1 l1_1 (hl5_0).2 k 0 (by have := (hl5_0).1; omega) (Nat.zero_le _)
      simp only [el5, hw, ih2]
    · rw [List.drop_of_length_le (by omega), tarryref07_Like.l1, tarryref07_Like.r1, if_neg (by omega)]
      have el5 : tarryref07_Like.l5 k l0_1 l1_1 k 0 = tarryref07_Like.r5 k l0_1 l1_1 l0_1 0 := tarryref07_Like.r5_eq k l0_1 l1_1 (hl5_0).2 k 0 (by have := (hl5_0).1; omega) (Nat.zero_le _)
      try simp only [el5]
      try simp only [Int.natCast_zero]
def tarryref07_For.r1 (k : Nat) (a1 : ByteArray) (l0_1 : List S22) : List S22 → (List S22) → Option (List S22)
  | [], l10230 => (some l10230)
  | x10275 :: xsi10231, l10230 => (if (x10275.f0 == a1) = true then (if (l10230.length + ([x10275] : List S22).length) * 56 ≤ 140737488355328 then (tarryref07_For.r1 k a1 l0_1 xsi10231 (l10230 ++ ([x10275] : List S22))) else none) else (tarryref07_For.r1 k a1 l0_1 xsi10231 l10230))
set_option maxHeartbeats 1000000 in
theorem tarryref07_For.r1_eq (k : Nat) (a1 : ByteArray) (l0_1 : List S22)  (hs : l0_1.length < 4611686018427387904) : ∀ (m i10231 : Nat) (l10230 : List S22), l0_1.length < m + i10231 → i10231 ≤ l0_1.length → tarryref07_For.l1 k a1 l0_1 m l10230 (i10231 : Int) = tarryref07_For.r1 k a1 l0_1 (l0_1.drop i10231) l10230 := by
  intro m
  induction m with
  | zero => intro i10231 l10230 h hi; omega
  | succ m ih =>
    intro i10231 l10230 h hi
    by_cases hc : i10231 < l0_1.length
    · have hw : wrap64 ((i10231 : Int) + 1) = ((i10231 + 1 : Nat) : Int) := by unfold wrap64; omega
      have hg : l0_1[(i10231 : Int).toNat]? = some l0_1[i10231] := by rw [Int.toNat_natCast]; exact List.getElem?_eq_getElem hc
      have ih2 := fun l10230 => ih (i10231 + 1) l10230 (by omega) (by omega)
      rw [List.drop_eq_getElem_cons hc, tarryref07_For.l1, tarryref07_For.r1, if_pos (by omega), if_pos (by omega), hg, Option.bind_some]
      simp only [hw, ih2]
    · rw [List.drop_of_length_le (by omega), tarryref07_For.l1, tarryref07_For.r1, if_neg (by omega)]
def tarryref07_Rule.r1 (k : Nat) (a1_0 : ByteArray) (a1_1 : ByteArray) (a1_2 : Int) (a1_3 : Int) (a1_4 : Int) (l0_0 : List ByteArray) (l0_1 : List S22) : List S22 → (List S22) → Bool → Option (List ByteArray × List S22)
  | [], l11301, q11302 => (if q11302 = true then (some (l0_0, l11301)) else (if (l11301.length + ([(⟨a1_0, a1_1, a1_2, a1_3, a1_4⟩ : S22)] : List S22).length) * 56 ≤ 140737488355328 then (some (l0_0, (l11301 ++ ([(⟨a1_0, a1_1, a1_2, a1_3, a1_4⟩ : S22)] : List S22)))) else none))
  | x11457 :: xsi11303, l11301, q11302 => (if q11302 = true then (if (l11301.length + ([x11457] : List S22).length) * 56 ≤ 140737488355328 then (tarryref07_Rule.r1 k a1_0 a1_1 a1_2 a1_3 a1_4 l0_0 l0_1 xsi11303 (l11301 ++ ([x11457] : List S22)) true) else none) else ((tarryref07_above.f k x11457.f0 x11457.f1 x11457.f2 x11457.f3 x11457.f4 a1_0 a1_1 a1_2 a1_3 a1_4).bind fun t11482 => (if t11482 = true then (if (l11301.length + ([(⟨a1_0, a1_1, a1_2, a1_3, a1_4⟩ : S22)] : List S22).length) * 56 ≤ 140737488355328 then (if ((l11301 ++ ([(⟨a1_0, a1_1, a1_2, a1_3, a1_4⟩ : S22)] : List S22)).length + ([x11457] : List S22).length) * 56 ≤ 140737488355328 then (tarryref07_Rule.r1 k a1_0 a1_1 a1_2 a1_3 a1_4 l0_0 l0_1 xsi11303 ((l11301 ++ ([(⟨a1_0, a1_1, a1_2, a1_3, a1_4⟩ : S22)] : List S22)) ++ ([x11457] : List S22)) true) else none) else none) else (if (l11301.length + ([x11457] : List S22).length) * 56 ≤ 140737488355328 then (tarryref07_Rule.r1 k a1_0 a1_1 a1_2 a1_3 a1_4 l0_0 l0_1 xsi11303 (l11301 ++ ([x11457] : List S22)) false) else none))))
set_option maxHeartbeats 1000000 in
theorem tarryref07_Rule.r1_eq (k : Nat) (a1_0 : ByteArray) (a1_1 : ByteArray) (a1_2 : Int) (a1_3 : Int) (a1_4 : Int) (l0_0 : List ByteArray) (l0_1 : List S22)  (hs : l0_1.length < 4611686018427387904) : ∀ (m i11303 : Nat) (l11301 : List S22) (q11302 : Bool), l0_1.length < m + i11303 → i11303 ≤ l0_1.length → tarryref07_Rule.l1 k a1_0 a1_1 a1_2 a1_3 a1_4 l0_0 l0_1 m l11301 q11302 (i11303 : Int) = tarryref07_Rule.r1 k a1_0 a1_1 a1_2 a1_3 a1_4 l0_0 l0_1 (l0_1.drop i11303) l11301 q11302 := by
  intro m
  induction m with
  | zero => intro i11303 l11301 q11302 h hi; omega
  | succ m ih =>
    intro i11303 l11301 q11302 h hi
    by_cases hc : i11303 < l0_1.length
    · have hw : wrap64 ((i11303 : Int) + 1) = ((i11303 + 1 : Nat) : Int) := by unfold wrap64; omega
      have hg : l0_1[(i11303 : Int).toNat]? = some l0_1[i11303] := by rw [Int.toNat_natCast]; exact List.getElem?_eq_getElem hc
      have ih2 := fun l11301 q11302 => ih (i11303 + 1) l11301 q11302 (by omega) (by omega)
      rw [List.drop_eq_getElem_cons hc, tarryref07_Rule.l1, tarryref07_Rule.r1, if_pos (by omega), if_pos (by omega), hg, Option.bind_some]
      simp only [hw, ih2]
    · rw [List.drop_of_length_le (by omega), tarryref07_Rule.l1, tarryref07_Rule.r1, if_neg (by omega)]
def tarryref07_Know.r1 (k : Nat) (a1 : ByteArray) (l0_0 : List ByteArray) (l0_1 : List S22) : List ByteArray → (List ByteArray) → Bool → Option (List ByteArray × List S22)
  | [], l22941, q22942 => (if q22942 = true then (some (l22941, l0_1)) else (if (l22941.length + ([a1] : List ByteArray).length) * 16 ≤ 140737488355328 then (some ((l22941 ++ ([a1] : List ByteArray)), l0_1)) else none))
  | x23094 :: xsi22943, l22941, q22942 => (if q22942 = true then (if (l22941.length + ([x23094] : List ByteArray).length) * 16 ≤ 140737488355328 then (tarryref07_Know.r1 k a1 l0_0 l0_1 xsi22943 (l22941 ++ ([x23094] : List ByteArray)) true) else none) else ((tarryref07_Less.f k a1 x23094).bind fun t23118 => (if t23118 = true then (if (l22941.length + ([a1] : List ByteArray).length) * 16 ≤ 140737488355328 then (if ((l22941 ++ ([a1] : List ByteArray)).length + ([x23094] : List ByteArray).length) * 16 ≤ 140737488355328 then (tarryref07_Know.r1 k a1 l0_0 l0_1 xsi22943 ((l22941 ++ ([a1] : List ByteArray)) ++ ([x23094] : List ByteArray)) true) else none) else none) else (if (l22941.length + ([x23094] : List ByteArray).length) * 16 ≤ 140737488355328 then (tarryref07_Know.r1 k a1 l0_0 l0_1 xsi22943 (l22941 ++ ([x23094] : List ByteArray)) false) else none))))
set_option maxHeartbeats 1000000 in
theorem tarryref07_Know.r1_eq (k : Nat) (a1 : ByteArray) (l0_0 : List ByteArray) (l0_1 : List S22)  (hs : l0_0.length < 4611686018427387904) : ∀ (m i22943 : Nat) (l22941 : List ByteArray) (q22942 : Bool), l0_0.length < m + i22943 → i22943 ≤ l0_0.length → tarryref07_Know.l1 k a1 l0_0 l0_1 m l22941 q22942 (i22943 : Int) = tarryref07_Know.r1 k a1 l0_0 l0_1 (l0_0.drop i22943) l22941 q22942 := by
  intro m
  induction m with
  | zero => intro i22943 l22941 q22942 h hi; omega
  | succ m ih =>
    intro i22943 l22941 q22942 h hi
    by_cases hc : i22943 < l0_0.length
    · have hw : wrap64 ((i22943 : Int) + 1) = ((i22943 + 1 : Nat) : Int) := by unfold wrap64; omega
      have hg : l0_0[(i22943 : Int).toNat]? = some l0_0[i22943] := by rw [Int.toNat_natCast]; exact List.getElem?_eq_getElem hc
      have ih2 := fun l22941 q22942 => ih (i22943 + 1) l22941 q22942 (by omega) (by omega)
      rw [List.drop_eq_getElem_cons hc, tarryref07_Know.l1, tarryref07_Know.r1, if_pos (by omega), if_pos (by omega), hg, Option.bind_some]
      simp only [hw, ih2]
    · rw [List.drop_of_length_le (by omega), tarryref07_Know.l1, tarryref07_Know.r1, if_neg (by omega)]
def tarrylaw07_GoodsKnow.r2134 (k : Nat) (r2311 : List ByteArray) (r2312 : List S22) (r382 : List ByteArray) (r383 : List S22) (t2313 : Int) (t391 : ByteArray) (t392 : ByteArray) (t393 : Int) (t394 : Int) (t395 : Int) : List S22 → Bool → Option (Bool)
  | [], q154043 => (tarrylaw07_GoodsKnow.j2133 k r2311 r2312 r382 r383 t2313 t391 t392 t393 t394 t395 q154043)
  | x154085 :: xsi154044, q154043 => (if q154043 = true then (tarrylaw07_GoodsKnow.r2134 k r2311 r2312 r382 r383 t2313 t391 t392 t393 t394 t395 xsi154044 true) else (if (x154085.f0 == t391) = true then (if x154085.f2 = t393 then (tarrylaw07_GoodsKnow.r2134 k r2311 r2312 r382 r383 t2313 t391 t392 t393 t394 t395 xsi154044 true) else (tarrylaw07_GoodsKnow.r2134 k r2311 r2312 r382 r383 t2313 t391 t392 t393 t394 t395 xsi154044 (x154085.f1 == t392))) else (tarrylaw07_GoodsKnow.r2134 k r2311 r2312 r382 r383 t2313 t391 t392 t393 t394 t395 xsi154044 false)))
set_option maxHeartbeats 1000000 in
theorem tarrylaw07_GoodsKnow.r2134_eq (k : Nat) (r2311 : List ByteArray) (r2312 : List S22) (r382 : List ByteArray) (r383 : List S22) (t2313 : Int) (t391 : ByteArray) (t392 : ByteArray) (t393 : Int) (t394 : Int) (t395 : Int)  (hs : r383.length < 4611686018427387904) : ∀ (m i154044 : Nat) (q154043 : Bool), r383.length < m + i154044 → i154044 ≤ r383.length → tarrylaw07_GoodsKnow.l2134 k r2311 r2312 r382 r383 t2313 t391 t392 t393 t394 t395 m q154043 (i154044 : Int) = tarrylaw07_GoodsKnow.r2134 k r2311 r2312 r382 r383 t2313 t391 t392 t393 t394 t395 (r383.drop i154044) q154043 := by
  intro m
  induction m with
  | zero => intro i154044 q154043 h hi; omega
  | succ m ih =>
    intro i154044 q154043 h hi
    by_cases hc : i154044 < r383.length
    · have hw : wrap64 ((i154044 : Int) + 1) = ((i154044 + 1 : Nat) : Int) := by unfold wrap64; omega
      have hg : r383[(i154044 : Int).toNat]? = some r383[i154044] := by rw [Int.toNat_natCast]; exact List.getElem?_eq_getElem hc
      have ih2 := fun q154043 => ih (i154044 + 1) q154043 (by omega) (by omega)
      rw [List.drop_eq_getElem_cons hc, tarrylaw07_GoodsKnow.l2134, tarrylaw07_GoodsKnow.r2134, if_pos (by omega), if_pos (by omega), hg, Option.bind_some]
      simp only [hw, ih2]
    · rw [List.drop_of_length_le (by omega), tarrylaw07_GoodsKnow.l2134, tarrylaw07_GoodsKnow.r2134, if_neg (by omega)]

end Go.Proofs.Ytoiihpmncphplaa.PGoodsKnow
