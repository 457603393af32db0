/- Written by a program of this repo: what the program's functions do, each as a Lean function, shown of the loaded code; or a statement's row over that; no condition of its own. -/
import Derived.Test.YtoiihpmncphplaaPGoodsStayx0
namespace Go.Proofs.Ytoiihpmncphplaa.PGoodsStay
open Go Go.RowKit Go.Proofs.YtoiihpmncphplaaV
set_option linter.unusedVariables false
set_option linter.unusedSimpArgs false

def tarrylaw07_few.r5 (k : Nat) (l0_1 : List S22) (l83 : List ByteArray) : List S22 → (List S22) → Option (List ByteArray × List S22)
  | [], l343 => (some (l83, l343))
  | x368 :: xsi340, l343 => ((tarrylaw07_cut.f x368.f0 x368.f1 x368.f2 x368.f3 x368.f4).bind fun ⟨t372, t373, t374, t375, t376⟩ => (if (l343.length + ([(⟨t372, t373, t374, t375, t376⟩ : S22)] : List S22).length) * 56 ≤ 140737488355328 then (tarrylaw07_few.r5 k l0_1 l83 xsi340 (l343 ++ ([(⟨t372, t373, t374, t375, t376⟩ : S22)] : List S22))) else none))
set_option maxHeartbeats 1000000 in
theorem tarrylaw07_few.r5_eq (k : Nat) (l0_1 : List S22) (l83 : List ByteArray)  (hs : ((l0_1.take ((mn (l0_1.length : Int) 18).toNat)).drop 0).length < 4611686018427387904) : ∀ (m i340 : Nat) (l343 : List S22), ((l0_1.take ((mn (l0_1.length : Int) 18).toNat)).drop 0).length < m + i340 → i340 ≤ ((l0_1.take ((mn (l0_1.length : Int) 18).toNat)).drop 0).length → tarrylaw07_few.l5 k l0_1 l83 m (i340 : Int) l343 = tarrylaw07_few.r5 k l0_1 l83 (((l0_1.take ((mn (l0_1.length : Int) 18).toNat)).drop 0).drop i340) l343 := by
  intro m
  induction m with
  | zero => intro i340 l343 h hi; omega
  | succ m ih =>
    intro i340 l343 h hi
    by_cases hc : i340 < ((l0_1.take ((mn (l0_1.length : Int) 18).toNat)).drop 0).length
    · have hw : wrap64 ((i340 : Int) + 1) = ((i340 + 1 : Nat) : Int) := by unfold wrap64; omega
      have hg : ((l0_1.take ((mn (l0_1.length : Int) 18).toNat)).drop 0)[(i340 : Int).toNat]? = some ((l0_1.take ((mn (l0_1.length : Int) 18).toNat)).drop 0)[i340] := by rw [Int.toNat_natCast]; exact List.getElem?_eq_getElem hc
      have ih2 := fun l343 => ih (i340 + 1) l343 (by omega) (by omega)
      rw [List.drop_eq_getElem_cons hc, tarrylaw07_few.l5, tarrylaw07_few.r5, if_pos (by omega), if_pos (by omega), hg, Option.bind_some]
      simp only [hw, ih2]
    · rw [List.drop_of_length_le (by omega), tarrylaw07_few.l5, tarrylaw07_few.r5, if_neg (by omega)]
def tarrylaw07_few.r1 (k : Nat) (l0_0 : List ByteArray) (l0_1 : List S22) : List ByteArray → (List ByteArray) → Option (List ByteArray × List S22)
  | [], l83 => (if 0 ≤ mn (l0_1.length : Int) 18 then (if (mn (l0_1.length : Int) 18) ≤ (l0_1.length : Int) then (tarrylaw07_few.r5 k l0_1 l83 ((l0_1.take ((mn (l0_1.length : Int) 18).toNat)).drop 0) ([] : List S22)) else none) else none)
  | x241 :: xsi80, l83 => (if 0 ≤ mn (x241.size : Int) 18 then (if (mn (x241.size : Int) 18) ≤ (x241.size : Int) then (if (l83.length + ([x241.extract 0 ((mn (x241.size : Int) 18).toNat)] : List ByteArray).length) * 16 ≤ 140737488355328 then (tarrylaw07_few.r1 k l0_0 l0_1 xsi80 (l83 ++ ([x241.extract 0 ((mn (x241.size : Int) 18).toNat)] : List ByteArray))) else none) else none) else none)
set_option maxHeartbeats 1000000 in
theorem tarrylaw07_few.r1_eq (k : Nat) (l0_0 : List ByteArray) (l0_1 : List S22) (hl5_0 : ((l0_1.take ((mn (l0_1.length : Int) 18).toNat)).drop 0).length < k ∧ ((l0_1.take ((mn (l0_1.length : Int) 18).toNat)).drop 0).length < 4611686018427387904) (hs : ((l0_0.take ((mn (l0_0.length : Int) 10).toNat)).drop 0).length < 4611686018427387904) : ∀ (m i80 : Nat) (l83 : List ByteArray), ((l0_0.take ((mn (l0_0.length : Int) 10).toNat)).drop 0).length < m + i80 → i80 ≤ ((l0_0.take ((mn (l0_0.length : Int) 10).toNat)).drop 0).length → tarrylaw07_few.l1 k l0_0 l0_1 m (i80 : Int) l83 = tarrylaw07_few.r1 k l0_0 l0_1 (((l0_0.take ((mn (l0_0.length : Int) 10).toNat)).drop 0).drop i80) l83 := by
  intro m
  induction m with
  | zero => intro i80 l83 h hi; omega
  | succ m ih =>
    intro i80 l83 h hi
    by_cases hc : i80 < ((l0_0.take ((mn (l0_0.length : Int) 10).toNat)).drop 0).length
    · have hw : wrap64 ((i80 : Int) + 1) = ((i80 + 1 : Nat) : Int) := by unfold wrap64; omega
      have hg : ((l0_0.take ((mn (l0_0.length : Int) 10).toNat)).drop 0)[(i80 : Int).toNat]? = some ((l0_0.take ((mn (l0_0.length : Int) 10).toNat)).drop 0)[i80] := by rw [Int.toNat_natCast]; exact List.getElem?_eq_getElem hc
      have ih2 := fun l83 => ih (i80 + 1) l83 (by omega) (by omega)
      rw [List.drop_eq_getElem_cons hc, tarrylaw07_few.l1, tarrylaw07_few.r1, if_pos (by omega), if_pos (by omega), hg, Option.bind_some]
      have el5 : ∀ (l83 : List ByteArray) (l343 : List S22), tarrylaw07_few.l5 k l0_1 l83 k 0 l343 = tarrylaw07_few.r5 k l0_1 l83 ((l0_1.take ((mn (l0_1.length : Int) 18).toNat)).drop 0) l343 := fun l83 l343 => tarrylaw07_few.r5_eq k l0_1 l83 (hl5_0).2 k 0 l343 (by have := (hl5_0).1; omega) (Nat.zero_le _)
      simp only [el5, hw, ih2]
    · rw [List.drop_of_length_le (by omega), tarrylaw07_few.l1, tarrylaw07_few.r1, if_neg (by omega)]
      have el5 : ∀ (l83 : List ByteArray) (l343 : List S22), tarrylaw07_few.l5 k l0_1 l83 k 0 l343 = tarrylaw07_few.r5 k l0_1 l83 ((l0_1.take ((mn (l0_1.length : Int) 18).toNat)).drop 0) l343 := fun l83 l343 => tarrylaw07_few.r5_eq k l0_1 l83 (hl5_0).2 k 0 l343 (by have := (hl5_0).1; omega) (Nat.zero_le _)
      try simp only [el5]
      try simp only [Int.natCast_zero]
def slices_IndexFunc_api_Sub_api_Sub.r1 (k : Nat) (a1_0_0 : ByteArray) (a1_0_1 : ByteArray) (a1_0_2 : Int) (a1_0_3 : Int) (a1_0_4 : Int) (l0 : List S22) : List S22 → Nat → Option (Int)
  | [], i494 => (some (-1))
  | x523 :: xsi494, i494 => ((goods_Right_1.f x523.f0 x523.f1 x523.f2 x523.f3 x523.f4 a1_0_0 a1_0_1 a1_0_2 a1_0_3 a1_0_4).bind fun t526 => (if t526 = true then (some (i494 : Int)) else (slices_IndexFunc_api_Sub_api_Sub.r1 k a1_0_0 a1_0_1 a1_0_2 a1_0_3 a1_0_4 l0 xsi494 (i494 + 1))))
set_option maxHeartbeats 1000000 in
theorem slices_IndexFunc_api_Sub_api_Sub.r1_eq (k : Nat) (a1_0_0 : ByteArray) (a1_0_1 : ByteArray) (a1_0_2 : Int) (a1_0_3 : Int) (a1_0_4 : Int) (l0 : List S22)  (hs : l0.length < 4611686018427387904) : ∀ (m i494 : Nat), l0.length < m + i494 → i494 ≤ l0.length → slices_IndexFunc_api_Sub_api_Sub.l1 k a1_0_0 a1_0_1 a1_0_2 a1_0_3 a1_0_4 l0 m (i494 : Int) = slices_IndexFunc_api_Sub_api_Sub.r1 k a1_0_0 a1_0_1 a1_0_2 a1_0_3 a1_0_4 l0 (l0.drop i494) i494 := by
  intro m
  induction m with
  | zero => intro i494 h hi; omega
  | succ m ih =>
    intro i494 h hi
    by_cases hc : i494 < l0.length
    · have hw : wrap64 ((i494 : Int) + 1) = ((i494 + 1 : Nat) : Int) := by unfold wrap64; omega
      have hg : l0[(i494 : Int).toNat]? = some l0[i494] := by rw [Int.toNat_natCast]; exact List.getElem?_eq_getElem hc
      have ih2 := ih (i494 + 1) (by omega) (by omega)
      rw [List.drop_eq_getElem_cons hc, slices_IndexFunc_api_Sub_api_Sub.l1, slices_IndexFunc_api_Sub_api_Sub.r1, if_pos (by omega), if_pos (by omega), hg, Option.bind_some]
      simp only [hw, ih2]
    · rw [List.drop_of_length_le (by omega), slices_IndexFunc_api_Sub_api_Sub.l1, slices_IndexFunc_api_Sub_api_Sub.r1, if_neg (by omega)]
def slices_IndexFunc_byte_byte.r1 (k : Nat) (l0 : List Int) : List Int → Nat → Option (Int)
  | [], i630 => (some (-1))
  | x659 :: xsi630, i630 => ((goods_name_1.f x659).bind fun t662 => (if t662 = true then (some (i630 : Int)) else (slices_IndexFunc_byte_byte.r1 k l0 xsi630 (i630 + 1))))
set_option maxHeartbeats 1000000 in
theorem slices_IndexFunc_byte_byte.r1_eq (k : Nat) (l0 : List Int)  (hs : l0.length < 4611686018427387904) : ∀ (m i630 : Nat), l0.length < m + i630 → i630 ≤ l0.length → slices_IndexFunc_byte_byte.l1 k l0 m (i630 : Int) = slices_IndexFunc_byte_byte.r1 k l0 (l0.drop i630) i630 := by
  intro m
  induction m with
  | zero => intro i630 h hi; omega
  | succ m ih =>
    intro i630 h hi
    by_cases hc : i630 < l0.length
    · have hw : wrap64 ((i630 : Int) + 1) = ((i630 + 1 : Nat) : Int) := by unfold wrap64; omega
      have hg : l0[(i630 : Int).toNat]? = some l0[i630] := by rw [Int.toNat_natCast]; exact List.getElem?_eq_getElem hc
      have ih2 := ih (i630 + 1) (by omega) (by omega)
      rw [List.drop_eq_getElem_cons hc, slices_IndexFunc_byte_byte.l1, slices_IndexFunc_byte_byte.r1, if_pos (by omega), if_pos (by omega), hg, Option.bind_some]
      simp only [hw, ih2]
    · rw [List.drop_of_length_le (by omega), slices_IndexFunc_byte_byte.l1, slices_IndexFunc_byte_byte.r1, if_neg (by omega)]
def slices_Index_string_string.r1 (k : Nat) (a1 : ByteArray) (l0 : List ByteArray) : List ByteArray → Nat → Option (Int)
  | [], i781 => (some (-1))
  | x807 :: xsi781, i781 => (if (a1 == x807) = true then (some (i781 : Int)) else (slices_Index_string_string.r1 k a1 l0 xsi781 (i781 + 1)))
set_option maxHeartbeats 1000000 in
theorem slices_Index_string_string.r1_eq (k : Nat) (a1 : ByteArray) (l0 : List ByteArray)  (hs : l0.length < 4611686018427387904) : ∀ (m i781 : Nat), l0.length < m + i781 → i781 ≤ l0.length → slices_Index_string_string.l1 k a1 l0 m (i781 : Int) = slices_Index_string_string.r1 k a1 l0 (l0.drop i781) i781 := by
  intro m
  induction m with
  | zero => intro i781 h hi; omega
  | succ m ih =>
    intro i781 h hi
    by_cases hc : i781 < l0.length
    · have hw : wrap64 ((i781 : Int) + 1) = ((i781 + 1 : Nat) : Int) := by unfold wrap64; omega
      have hg : l0[(i781 : Int).toNat]? = some l0[i781] := by rw [Int.toNat_natCast]; exact List.getElem?_eq_getElem hc
      have ih2 := ih (i781 + 1) (by omega) (by omega)
      rw [List.drop_eq_getElem_cons hc, slices_Index_string_string.l1, slices_Index_string_string.r1, if_pos (by omega), if_pos (by omega), hg, Option.bind_some]
      simp only [hw, ih2]
    · rw [List.drop_of_length_le (by omega), slices_Index_string_string.l1, slices_Index_string_string.r1, if_neg (by omega)]
def slices_IndexFunc_string_string.r1 (k : Nat) (l0 : List ByteArray) : List ByteArray → Nat → Option (Int)
  | [], i1187 => (some (-1))
  | x1216 :: xsi1187, i1187 => ((goods_Right_2.f k x1216).bind fun t1219 => (if t1219 = true then (some (i1187 : Int)) else (slices_IndexFunc_string_string.r1 k l0 xsi1187 (i1187 + 1))))
set_option maxHeartbeats 1000000 in
theorem slices_IndexFunc_string_string.r1_eq (k : Nat) (l0 : List ByteArray)  (hs : l0.length < 4611686018427387904) : ∀ (m i1187 : Nat), l0.length < m + i1187 → i1187 ≤ l0.length → slices_IndexFunc_string_string.l1 k l0 m (i1187 : Int) = slices_IndexFunc_string_string.r1 k l0 (l0.drop i1187) i1187 := by
  intro m
  induction m with
  | zero => intro i1187 h hi; omega
  | succ m ih =>
    intro i1187 h hi
    by_cases hc : i1187 < l0.length
    · have hw : wrap64 ((i1187 : Int) + 1) = ((i1187 + 1 : Nat) : Int) := by unfold wrap64; omega
      have hg : l0[(i1187 : Int).toNat]? = some l0[i1187] := by rw [Int.toNat_natCast]; exact List.getElem?_eq_getElem hc
      have ih2 := ih (i1187 + 1) (by omega) (by omega)
      rw [List.drop_eq_getElem_cons hc, slices_IndexFunc_string_string.l1, slices_IndexFunc_string_string.r1, if_pos (by omega), if_pos (by omega), hg, Option.bind_some]
      simp only [hw, ih2]
    · rw [List.drop_of_length_le (by omega), slices_IndexFunc_string_string.l1, slices_IndexFunc_string_string.r1, if_neg (by omega)]
-- goods_rising_string.l1: another shape
def cmp_Or_int.r1 (k : Nat) (l0 : List Int) : List Int → Option (Int)
  | [] => (some 0)
  | x1482 :: xsi1456 => (if x1482 = 0 then (cmp_Or_int.r1 k l0 xsi1456) else (some x1482))
set_option maxHeartbeats 1000000 in
theorem cmp_Or_int.r1_eq (k : Nat) (l0 : List Int)  (hs : l0.length < 4611686018427387904) : ∀ (m i1456 : Nat), l0.length < m + i1456 → i1456 ≤ l0.length → cmp_Or_int.l1 k l0 m (i1456 : Int) = cmp_Or_int.r1 k l0 (l0.drop i1456) := by
  intro m
  induction m with
  | zero => intro i1456 h hi; omega
  | succ m ih =>
    intro i1456 h hi
    by_cases hc : i1456 < l0.length
    · have hw : wrap64 ((i1456 : Int) + 1) = ((i1456 + 1 : Nat) : Int) := by unfold wrap64; omega
      have hg : l0[(i1456 : Int).toNat]? = some l0[i1456] := by rw [Int.toNat_natCast]; exact List.getElem?_eq_getElem hc
      have ih2 := ih (i1456 + 1) (by omega) (by omega)
      rw [List.drop_eq_getElem_cons hc, cmp_Or_int.l1, cmp_Or_int.r1, if_pos (by omega), if_pos (by omega), hg, Option.bind_some]
      simp only [hw, ih2]
    · rw [List.drop_of_length_le (by omega), cmp_Or_int.l1, cmp_Or_int.r1, if_neg (by omega)]
-- goods_rising_Sub.l1: another shape
def goods_Right.r1 (k : Nat) (l0_0 : List ByteArray) (l0_1 : List S22) : List S22 → Nat → Option (Bool)
  | [], i1048 => ((slices_ContainsFunc_string_string.f k l0_0).bind fun t1673 => (if t1673 = true then (some false) else ((goods_rising_string.f k l0_0 8).bind fun t1681 => (if t1681 = true then ((goods_rising_Sub.f k l0_1 16).bind fun t1684 => (some t1684)) else (some false)))))
  | x1641 :: xsi1048, i1048 => (if (i1048 : Int) ≤ (l0_1.length : Int) then ((slices_ContainsFunc_api_Sub_api_Sub.f k ((l0_1.take (i1048 : Int).toNat).drop 0) x1641.f0 x1641.f1 x1641.f2 x1641.f3 x1641.f4).bind fun t1648 => (if t1648 = true then (some false) else ((goods_may.f k x1641.f0 x1641.f1 x1641.f2 x1641.f3 x1641.f4).bind fun t1661 => (if t1661 = true then ((slices_Contains_string_string.f k l0_0 x1641.f0).bind fun t1664 => (if t1664 = true then ((slices_Contains_string_string.f k l0_0 x1641.f1).bind fun t1667 => (if t1667 = true then (goods_Right.r1 k l0_0 l0_1 xsi1048 (i1048 + 1)) else (some false))) else (some false))) else (some false))))) else none)
set_option maxHeartbeats 1000000 in
theorem goods_Right.r1_eq (k : Nat) (l0_0 : List ByteArray) (l0_1 : List S22)  (hs : l0_1.length < 4611686018427387904) : ∀ (m i1048 : Nat), l0_1.length < m + i1048 → i1048 ≤ l0_1.length → goods_Right.l1 k l0_0 l0_1 m (i1048 : Int) = goods_Right.r1 k l0_0 l0_1 (l0_1.drop i1048) i1048 := by
  intro m
  induction m with
  | zero => intro i1048 h hi; omega
  | succ m ih =>
    intro i1048 h hi
    by_cases hc : i1048 < l0_1.length
    · have hw : wrap64 ((i1048 : Int) + 1) = ((i1048 + 1 : Nat) : Int) := by unfold wrap64; omega
      have hg : l0_1[(i1048 : Int).toNat]? = some l0_1[i1048] := by rw [Int.toNat_natCast]; exact List.getElem?_eq_getElem hc
      have ih2 := ih (i1048 + 1) (by omega) (by omega)
      rw [List.drop_eq_getElem_cons hc, goods_Right.l1, goods_Right.r1, if_pos (by omega), if_pos (by omega), hg, Option.bind_some]
      simp only [hw, ih2]
    · rw [List.drop_of_length_le (by omega), goods_Right.l1, goods_Right.r1, if_neg (by omega)]
def slices_IndexFunc_api_Sub_api_Sub_s25.r1 (k : Nat) (a1_0_0 : ByteArray) (a1_0_1 : ByteArray) (a1_0_2 : Int) (a1_0_3 : Int) (a1_0_4 : Int) (l0 : List S22) : List S22 → Nat → Option (Int)
  | [], i1788 => (some (-1))
  | x1817 :: xsi1788, i1788 => ((goods_Rule_1.f x1817.f0 x1817.f1 x1817.f2 x1817.f3 x1817.f4 a1_0_0 a1_0_1 a1_0_2 a1_0_3 a1_0_4).bind fun t1820 => (if t1820 = true then (some (i1788 : Int)) else (slices_IndexFunc_api_Sub_api_Sub_s25.r1 k a1_0_0 a1_0_1 a1_0_2 a1_0_3 a1_0_4 l0 xsi1788 (i1788 + 1))))
set_option maxHeartbeats 1000000 in
theorem slices_IndexFunc_api_Sub_api_Sub_s25.r1_eq (k : Nat) (a1_0_0 : ByteArray) (a1_0_1 : ByteArray) (a1_0_2 : Int) (a1_0_3 : Int) (a1_0_4 : Int) (l0 : List S22)  (hs : l0.length < 4611686018427387904) : ∀ (m i1788 : Nat), l0.length < m + i1788 → i1788 ≤ l0.length → slices_IndexFunc_api_Sub_api_Sub_s25.l1 k a1_0_0 a1_0_1 a1_0_2 a1_0_3 a1_0_4 l0 m (i1788 : Int) = slices_IndexFunc_api_Sub_api_Sub_s25.r1 k a1_0_0 a1_0_1 a1_0_2 a1_0_3 a1_0_4 l0 (l0.drop i1788) i1788 := by
  intro m
  induction m with
  | zero => intro i1788 h hi; omega
  | succ m ih =>
    intro i1788 h hi
    by_cases hc : i1788 < l0.length
    · have hw : wrap64 ((i1788 : Int) + 1) = ((i1788 + 1 : Nat) : Int) := by unfold wrap64; omega
      have hg : l0[(i1788 : Int).toNat]? = some l0[i1788] := by rw [Int.toNat_natCast]; exact List.getElem?_eq_getElem hc
      have ih2 := ih (i1788 + 1) (by omega) (by omega)
      rw [List.drop_eq_getElem_cons hc, slices_IndexFunc_api_Sub_api_Sub_s25.l1, slices_IndexFunc_api_Sub_api_Sub_s25.r1, if_pos (by omega), if_pos (by omega), hg, Option.bind_some]
      simp only [hw, ih2]
    · rw [List.drop_of_length_le (by omega), slices_IndexFunc_api_Sub_api_Sub_s25.l1, slices_IndexFunc_api_Sub_api_Sub_s25.r1, if_neg (by omega)]
-- slices_BinarySearchFunc_api_Sub_api_Sub_api_Sub.l1: no index
def slices_IndexFunc_api_Sub_api_Sub_s35.r1 (k : Nat) (a1_0_0 : ByteArray) (l0 : List S22) : List S22 → Nat → Option (Int)
  | [], i2224 => (some (-1))
  | x2253 :: xsi2224, i2224 => ((goods_For_1.f x2253.f0 x2253.f1 x2253.f2 x2253.f3 x2253.f4 a1_0_0).bind fun t2256 => (if t2256 = true then (some (i2224 : Int)) else (slices_IndexFunc_api_Sub_api_Sub_s35.r1 k a1_0_0 l0 xsi2224 (i2224 + 1))))
set_option maxHeartbeats 1000000 in
theorem slices_IndexFunc_api_Sub_api_Sub_s35.r1_eq (k : Nat) (a1_0_0 : ByteArray) (l0 : List S22)  (hs : l0.length < 4611686018427387904) : ∀ (m i2224 : Nat), l0.length < m + i2224 → i2224 ≤ l0.length → slices_IndexFunc_api_Sub_api_Sub_s35.l1 k a1_0_0 l0 m (i2224 : Int) = slices_IndexFunc_api_Sub_api_Sub_s35.r1 k a1_0_0 l0 (l0.drop i2224) i2224 := by
  intro m
  induction m with
  | zero => intro i2224 h hi; omega
  | succ m ih =>
    intro i2224 h hi
    by_cases hc : i2224 < l0.length
    · have hw : wrap64 ((i2224 : Int) + 1) = ((i2224 + 1 : Nat) : Int) := by unfold wrap64; omega
      have hg : l0[(i2224 : Int).toNat]? = some l0[i2224] := by rw [Int.toNat_natCast]; exact List.getElem?_eq_getElem hc
      have ih2 := ih (i2224 + 1) (by omega) (by omega)
      rw [List.drop_eq_getElem_cons hc, slices_IndexFunc_api_Sub_api_Sub_s35.l1, slices_IndexFunc_api_Sub_api_Sub_s35.r1, if_pos (by omega), if_pos (by omega), hg, Option.bind_some]
      simp only [hw, ih2]
    · rw [List.drop_of_length_le (by omega), slices_IndexFunc_api_Sub_api_Sub_s35.l1, slices_IndexFunc_api_Sub_api_Sub_s35.r1, if_neg (by omega)]
def tarryref07_Like.r5 (k : Nat) (l0_1 : List S22) (l1_1 : List S22) : List S22 → Nat → Option (Bool)
  | [], i2681 => (some true)
  | x2704 :: xsi2681, i2681 => ((l1_1[(i2681 : Int).toNat]?).bind fun x2705 => (if (((x2704.f0 == x2705.f0) && ((x2704.f1 == x2705.f1) && ((x2704.f2 == x2705.f2) && ((x2704.f3 == x2705.f3) && (x2704.f4 == x2705.f4)))))) = true then (tarryref07_Like.r5 k l0_1 l1_1 xsi2681 (i2681 + 1)) else (some false)))
set_option maxHeartbeats 1000000 in
theorem tarryref07_Like.r5_eq (k : Nat) (l0_1 : List S22) (l1_1 : List S22)  (hs : l0_1.length < 4611686018427387904) : ∀ (m i2681 : Nat), l0_1.length < m + i2681 → i2681 ≤ l0_1.length → tarryref07_Like.l5 k l0_1 l1_1 m (i2681 : Int) = tarryref07_Like.r5 k l0_1 l1_1 (l0_1.drop i2681) i2681 := by
  intro m
  induction m with
  | zero => intro i2681 h hi; omega
  | succ m ih =>
    intro i2681 h hi
    by_cases hc : i2681 < l0_1.length
    · have hw : wrap64 ((i2681 : Int) + 1) = ((i2681 + 1 : Nat) : Int) := by unfold wrap64; omega
      have hg : l0_1[(i2681 : Int).toNat]? = some l0_1[i2681] := by rw [Int.toNat_natCast]; exact List.getElem?_eq_getElem hc
      have ih2 := ih (i2681 + 1) (by omega) (by omega)
      rw [List.drop_eq_getElem_cons hc, tarryref07_Like.l5, tarryref07_Like.r5, if_pos (by omega), if_pos (by omega), hg, Option.bind_some]
      simp only [hw, ih2]
    · rw [List.drop_of_length_le (by omega), tarryref07_Like.l5, tarryref07_Like.r5, if_neg (by omega)]
def tarryref07_Like.r1 (k : Nat) (l0_0 : List ByteArray) (l0_1 : List S22) (l1_0 : List ByteArray) (l1_1 : List S22) : List ByteArray → Nat → Option (Bool)
  | [], i2525 => (tarryref07_Like.r5 k l0_1 l1_1 l0_1 0)
  | x2628 :: xsi2525, i2525 => ((l1_0[(i2525 : Int).toNat]?).bind fun x2629 => (if (x2628 == x2629) = true then (tarryref07_Like.r1 k l0_0 l0_1 l1_0 l1_1 xsi2525 (i2525 + 1)) else (some false)))
set_option maxHeartbeats 1000000 in
theorem tarryref07_Like.r1_eq (k : Nat) (l0_0 : List ByteArray) (l0_1 : List S22) (l1_0 : List ByteArray) (l1_1 : List S22) (hl5_0 : l0_1.length < k ∧ l0_1.length < 4611686018427387904) (hs : l0_0.length < 4611686018427387904) : ∀ (m i2525 : Nat), l0_0.length < m + i2525 → i2525 ≤ l0_0.length → tarryref07_Like.l1 k l0_0 l0_1 l1_0 l1_1 m (i2525 : Int) = tarryref07_Like.r1 k l0_0 l0_1 l1_0 l1_1 (l0_0.drop i2525) i2525 := by
  intro m
  induction m with
  | zero => intro i2525 h hi; omega
  | succ m ih =>
    intro i2525 h hi
    by_cases hc : i2525 < l0_0.length
    · have hw : wrap64 ((i2525 : Int) + 1) = ((i2525 + 1 : Nat) : Int) := by unfold wrap64; omega
      have hg : l0_0[(i2525 : Int).toNat]? = some l0_0[i2525] := by rw [Int.toNat_natCast]; exact List.getElem?_eq_getElem hc
      have ih2 := ih (i2525 + 1) (by omega) (by omega)
      rw [List.drop_eq_getElem_cons hc, tarryref07_Like.l1, tarryref07_Like.r1, if_pos (by omega), if_pos (by omega), hg, Option.bind_some]
      have el5 : tarryref07_Like.l5 k l0_1 l1_1 k 0 = tarryref07_Like.r5 k l0_1 l1_1 l0_1 0 := tarryref07_Like.r5_eq k l0_1 l1_1 (hl5_0).2 k 0 (by have := (hl5_0).1; omega) (Nat.zero_le _)
      simp only [el5, hw, ih2]
    · rw [List.drop_of_length_le (by omega), tarryref07_Like.l1, tarryref07_Like.r1, if_neg (by omega)]
      have el5 : tarryref07_Like.l5 k l0_1 l1_1 k 0 = tarryref07_Like.r5 k l0_1 l1_1 l0_1 0 := tarryref07_Like.r5_eq k l0_1 l1_1 (hl5_0).2 k 0 (by have := (hl5_0).1; omega) (Nat.zero_le _)
      try simp only [el5]
      try simp only [Int.natCast_zero]
def tarrylaw07_GoodsStay.r3 (k : Nat) (r2068 : List ByteArray) (r2069 : List S22) (r2265 : List S22) (r383 : List ByteArray) (r384 : List S22) (t2266 : Int) (t390 : ByteArray) (t391 : ByteArray) (t392 : Int) (t393 : Int) (t394 : Int) (t396 : ByteArray) (t397 : ByteArray) (t398 : Int) (t399 : Int) (t400 : Int) : List S22 → Int → Option (Bool)
  | [], i2838 => (tarrylaw07_GoodsStay.j2 k r2068 r2069 r383 r384 t2266 t390 t391 t392 t393 t394 t396 t397 t398 t399 t400 i2838)
  | x2874 :: xsi2839, i2838 => (if x2874.f2 = t392 then (if (((x2874.f0 == t390) && ((x2874.f1 == t391) && ((x2874.f2 == t392) && ((x2874.f3 == t393) && (x2874.f4 == t394)))))) = true then (tarrylaw07_GoodsStay.r3 k r2068 r2069 r2265 r383 r384 t2266 t390 t391 t392 t393 t394 t396 t397 t398 t399 t400 xsi2839 (wrap64 (i2838 + 1))) else none) else (tarrylaw07_GoodsStay.r3 k r2068 r2069 r2265 r383 r384 t2266 t390 t391 t392 t393 t394 t396 t397 t398 t399 t400 xsi2839 i2838))
set_option maxHeartbeats 1000000 in
theorem tarrylaw07_GoodsStay.r3_eq (k : Nat) (r2068 : List ByteArray) (r2069 : List S22) (r2265 : List S22) (r383 : List ByteArray) (r384 : List S22) (t2266 : Int) (t390 : ByteArray) (t391 : ByteArray) (t392 : Int) (t393 : Int) (t394 : Int) (t396 : ByteArray) (t397 : ByteArray) (t398 : Int) (t399 : Int) (t400 : Int)  (hs : r2265.length < 4611686018427387904) : ∀ (m i2839 : Nat) (i2838 : Int), r2265.length < m + i2839 → i2839 ≤ r2265.length → tarrylaw07_GoodsStay.l3 k r2068 r2069 r2265 r383 r384 t2266 t390 t391 t392 t393 t394 t396 t397 t398 t399 t400 m i2838 (i2839 : Int) = tarrylaw07_GoodsStay.r3 k r2068 r2069 r2265 r383 r384 t2266 t390 t391 t392 t393 t394 t396 t397 t398 t399 t400 (r2265.drop i2839) i2838 := by
  intro m
  induction m with
  | zero => intro i2839 i2838 h hi; omega
  | succ m ih =>
    intro i2839 i2838 h hi
    by_cases hc : i2839 < r2265.length
    · have hw : wrap64 ((i2839 : Int) + 1) = ((i2839 + 1 : Nat) : Int) := by unfold wrap64; omega
      have hg : r2265[(i2839 : Int).toNat]? = some r2265[i2839] := by rw [Int.toNat_natCast]; exact List.getElem?_eq_getElem hc
      have ih2 := fun i2838 => ih (i2839 + 1) i2838 (by omega) (by omega)
      rw [List.drop_eq_getElem_cons hc, tarrylaw07_GoodsStay.l3, tarrylaw07_GoodsStay.r3, if_pos (by omega), if_pos (by omega), hg, Option.bind_some]
      simp only [hw, ih2]
    · rw [List.drop_of_length_le (by omega), tarrylaw07_GoodsStay.l3, tarrylaw07_GoodsStay.r3, if_neg (by omega)]

end Go.Proofs.Ytoiihpmncphplaa.PGoodsStay
