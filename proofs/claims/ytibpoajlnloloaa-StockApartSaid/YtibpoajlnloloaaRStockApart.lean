/- Written by a program of this repo: what the program's functions do, each as a Lean function, shown of the loaded code; or a statement's row over that; no condition of its own. -/
import Derived.Test.YtibpoajlnloloaaPStockApartx0
namespace Go.Proofs.Ytibpoajlnloloaa.PStockApart
open Go Go.RowKit Go.Proofs.YtibpoajlnloloaaV
set_option linter.unusedVariables false
set_option linter.unusedSimpArgs false

def tarrylaw08_few.r1 (k : Nat) (l0 : List S32) : List S32 → (List S32) → Option (List S32)
  | [], l78 => (some l78)
  | x100 :: xsi80, l78 => (if 0 ≤ mn (x100.f0.size : Int) 18 then (if (mn (x100.f0.size : Int) 18) ≤ (x100.f0.size : Int) then (if (l78.length + ([(⟨x100.f0.extract 0 ((mn (x100.f0.size : Int) 18).toNat), x100.f1, x100.f2, x100.f3, x100.f4, x100.f5⟩ : S32)] : List S32).length) * 56 ≤ 140737488355328 then (tarrylaw08_few.r1 k l0 xsi80 (l78 ++ ([(⟨x100.f0.extract 0 ((mn (x100.f0.size : Int) 18).toNat), x100.f1, x100.f2, x100.f3, x100.f4, x100.f5⟩ : S32)] : List S32))) else none) else none) else none)
set_option maxHeartbeats 1000000 in
theorem tarrylaw08_few.r1_eq (k : Nat) (l0 : List S32)  (hs : ((l0.take ((mn (l0.length : Int) 10).toNat)).drop 0).length < 4611686018427387904) : ∀ (m i80 : Nat) (l78 : List S32), ((l0.take ((mn (l0.length : Int) 10).toNat)).drop 0).length < m + i80 → i80 ≤ ((l0.take ((mn (l0.length : Int) 10).toNat)).drop 0).length → tarrylaw08_few.l1 k l0 m l78 (i80 : Int) = tarrylaw08_few.r1 k l0 (((l0.take ((mn (l0.length : Int) 10).toNat)).drop 0).drop i80) l78 := by
  intro m
  induction m with
  | zero => intro i80 l78 h hi; omega
  | succ m ih =>
    intro i80 l78 h hi
    by_cases hc : i80 < ((l0.take ((mn (l0.length : Int) 10).toNat)).drop 0).length
    · have hw : wrap64 ((i80 : Int) + 1) = ((i80 + 1 : Nat) : Int) := by unfold wrap64; omega
      have hg : ((l0.take ((mn (l0.length : Int) 10).toNat)).drop 0)[(i80 : Int).toNat]? = some ((l0.take ((mn (l0.length : Int) 10).toNat)).drop 0)[i80] := by rw [Int.toNat_natCast]; exact List.getElem?_eq_getElem hc
      have ih2 := fun l78 => ih (i80 + 1) l78 (by omega) (by omega)
      rw [List.drop_eq_getElem_cons hc, tarrylaw08_few.l1, tarrylaw08_few.r1, if_pos (by omega), if_pos (by omega), hg, Option.bind_some]
      simp only [hw, ih2]
    · rw [List.drop_of_length_le (by omega), tarrylaw08_few.l1, tarrylaw08_few.r1, if_neg (by omega)]
def slices_IndexFunc_api_Sub_api_Sub.r1 (k : Nat) (a1_0_0 : ByteArray) (a1_0_1 : ByteArray) (a1_0_2 : Int) (a1_0_3 : Int) (a1_0_4 : Int) (l0 : List S71) : List S71 → Nat → Option (Int)
  | [], i222 => (some (-1))
  | x251 :: xsi222, i222 => ((goods_Right_1.f x251.f0 x251.f1 x251.f2 x251.f3 x251.f4 a1_0_0 a1_0_1 a1_0_2 a1_0_3 a1_0_4).bind fun t254 => (if t254 = true then (some (i222 : Int)) else (slices_IndexFunc_api_Sub_api_Sub.r1 k a1_0_0 a1_0_1 a1_0_2 a1_0_3 a1_0_4 l0 xsi222 (i222 + 1))))
set_option maxHeartbeats 1000000 in
theorem slices_IndexFunc_api_Sub_api_Sub.r1_eq (k : Nat) (a1_0_0 : ByteArray) (a1_0_1 : ByteArray) (a1_0_2 : Int) (a1_0_3 : Int) (a1_0_4 : Int) (l0 : List S71)  (hs : l0.length < 4611686018427387904) : ∀ (m i222 : Nat), l0.length < m + i222 → i222 ≤ l0.length → slices_IndexFunc_api_Sub_api_Sub.l1 k a1_0_0 a1_0_1 a1_0_2 a1_0_3 a1_0_4 l0 m (i222 : Int) = slices_IndexFunc_api_Sub_api_Sub.r1 k a1_0_0 a1_0_1 a1_0_2 a1_0_3 a1_0_4 l0 (l0.drop i222) i222 := by
  intro m
  induction m with
  | zero => intro i222 h hi; omega
  | succ m ih =>
    intro i222 h hi
    by_cases hc : i222 < l0.length
    · have hw : wrap64 ((i222 : Int) + 1) = ((i222 + 1 : Nat) : Int) := by unfold wrap64; omega
      have hg : l0[(i222 : Int).toNat]? = some l0[i222] := by rw [Int.toNat_natCast]; exact List.getElem?_eq_getElem hc
      have ih2 := ih (i222 + 1) (by omega) (by omega)
      rw [List.drop_eq_getElem_cons hc, slices_IndexFunc_api_Sub_api_Sub.l1, slices_IndexFunc_api_Sub_api_Sub.r1, if_pos (by omega), if_pos (by omega), hg, Option.bind_some]
      simp only [hw, ih2]
    · rw [List.drop_of_length_le (by omega), slices_IndexFunc_api_Sub_api_Sub.l1, slices_IndexFunc_api_Sub_api_Sub.r1, if_neg (by omega)]
def slices_IndexFunc_byte_byte.r1 (k : Nat) (l0 : List Int) : List Int → Nat → Option (Int)
  | [], i358 => (some (-1))
  | x387 :: xsi358, i358 => ((goods_name_1.f x387).bind fun t390 => (if t390 = true then (some (i358 : Int)) else (slices_IndexFunc_byte_byte.r1 k l0 xsi358 (i358 + 1))))
set_option maxHeartbeats 1000000 in
theorem slices_IndexFunc_byte_byte.r1_eq (k : Nat) (l0 : List Int)  (hs : l0.length < 4611686018427387904) : ∀ (m i358 : Nat), l0.length < m + i358 → i358 ≤ l0.length → slices_IndexFunc_byte_byte.l1 k l0 m (i358 : Int) = slices_IndexFunc_byte_byte.r1 k l0 (l0.drop i358) i358 := by
  intro m
  induction m with
  | zero => intro i358 h hi; omega
  | succ m ih =>
    intro i358 h hi
    by_cases hc : i358 < l0.length
    · have hw : wrap64 ((i358 : Int) + 1) = ((i358 + 1 : Nat) : Int) := by unfold wrap64; omega
      have hg : l0[(i358 : Int).toNat]? = some l0[i358] := by rw [Int.toNat_natCast]; exact List.getElem?_eq_getElem hc
      have ih2 := ih (i358 + 1) (by omega) (by omega)
      rw [List.drop_eq_getElem_cons hc, slices_IndexFunc_byte_byte.l1, slices_IndexFunc_byte_byte.r1, if_pos (by omega), if_pos (by omega), hg, Option.bind_some]
      simp only [hw, ih2]
    · rw [List.drop_of_length_le (by omega), slices_IndexFunc_byte_byte.l1, slices_IndexFunc_byte_byte.r1, if_neg (by omega)]
def slices_Index_string_string.r1 (k : Nat) (a1 : ByteArray) (l0 : List ByteArray) : List ByteArray → Nat → Option (Int)
  | [], i509 => (some (-1))
  | x535 :: xsi509, i509 => (if (a1 == x535) = true then (some (i509 : Int)) else (slices_Index_string_string.r1 k a1 l0 xsi509 (i509 + 1)))
set_option maxHeartbeats 1000000 in
theorem slices_Index_string_string.r1_eq (k : Nat) (a1 : ByteArray) (l0 : List ByteArray)  (hs : l0.length < 4611686018427387904) : ∀ (m i509 : Nat), l0.length < m + i509 → i509 ≤ l0.length → slices_Index_string_string.l1 k a1 l0 m (i509 : Int) = slices_Index_string_string.r1 k a1 l0 (l0.drop i509) i509 := by
  intro m
  induction m with
  | zero => intro i509 h hi; omega
  | succ m ih =>
    intro i509 h hi
    by_cases hc : i509 < l0.length
    · have hw : wrap64 ((i509 : Int) + 1) = ((i509 + 1 : Nat) : Int) := by unfold wrap64; omega
      have hg : l0[(i509 : Int).toNat]? = some l0[i509] := by rw [Int.toNat_natCast]; exact List.getElem?_eq_getElem hc
      have ih2 := ih (i509 + 1) (by omega) (by omega)
      rw [List.drop_eq_getElem_cons hc, slices_Index_string_string.l1, slices_Index_string_string.r1, if_pos (by omega), if_pos (by omega), hg, Option.bind_some]
      simp only [hw, ih2]
    · rw [List.drop_of_length_le (by omega), slices_Index_string_string.l1, slices_Index_string_string.r1, if_neg (by omega)]
def slices_IndexFunc_string_string.r1 (k : Nat) (l0 : List ByteArray) : List ByteArray → Nat → Option (Int)
  | [], i915 => (some (-1))
  | x944 :: xsi915, i915 => ((goods_Right_2.f k x944).bind fun t947 => (if t947 = true then (some (i915 : Int)) else (slices_IndexFunc_string_string.r1 k l0 xsi915 (i915 + 1))))
set_option maxHeartbeats 1000000 in
theorem slices_IndexFunc_string_string.r1_eq (k : Nat) (l0 : List ByteArray)  (hs : l0.length < 4611686018427387904) : ∀ (m i915 : Nat), l0.length < m + i915 → i915 ≤ l0.length → slices_IndexFunc_string_string.l1 k l0 m (i915 : Int) = slices_IndexFunc_string_string.r1 k l0 (l0.drop i915) i915 := by
  intro m
  induction m with
  | zero => intro i915 h hi; omega
  | succ m ih =>
    intro i915 h hi
    by_cases hc : i915 < l0.length
    · have hw : wrap64 ((i915 : Int) + 1) = ((i915 + 1 : Nat) : Int) := by unfold wrap64; omega
      have hg : l0[(i915 : Int).toNat]? = some l0[i915] := by rw [Int.toNat_natCast]; exact List.getElem?_eq_getElem hc
      have ih2 := ih (i915 + 1) (by omega) (by omega)
      rw [List.drop_eq_getElem_cons hc, slices_IndexFunc_string_string.l1, slices_IndexFunc_string_string.r1, if_pos (by omega), if_pos (by omega), hg, Option.bind_some]
      simp only [hw, ih2]
    · rw [List.drop_of_length_le (by omega), slices_IndexFunc_string_string.l1, slices_IndexFunc_string_string.r1, if_neg (by omega)]
-- goods_rising_string.l1: another shape
def cmp_Or_int.r1 (k : Nat) (l0 : List Int) : List Int → Option (Int)
  | [] => (some 0)
  | x1210 :: xsi1184 => (if x1210 = 0 then (cmp_Or_int.r1 k l0 xsi1184) else (some x1210))
set_option maxHeartbeats 1000000 in
theorem cmp_Or_int.r1_eq (k : Nat) (l0 : List Int)  (hs : l0.length < 4611686018427387904) : ∀ (m i1184 : Nat), l0.length < m + i1184 → i1184 ≤ l0.length → cmp_Or_int.l1 k l0 m (i1184 : Int) = cmp_Or_int.r1 k l0 (l0.drop i1184) := by
  intro m
  induction m with
  | zero => intro i1184 h hi; omega
  | succ m ih =>
    intro i1184 h hi
    by_cases hc : i1184 < l0.length
    · have hw : wrap64 ((i1184 : Int) + 1) = ((i1184 + 1 : Nat) : Int) := by unfold wrap64; omega
      have hg : l0[(i1184 : Int).toNat]? = some l0[i1184] := by rw [Int.toNat_natCast]; exact List.getElem?_eq_getElem hc
      have ih2 := ih (i1184 + 1) (by omega) (by omega)
      rw [List.drop_eq_getElem_cons hc, cmp_Or_int.l1, cmp_Or_int.r1, if_pos (by omega), if_pos (by omega), hg, Option.bind_some]
      simp only [hw, ih2]
    · rw [List.drop_of_length_le (by omega), cmp_Or_int.l1, cmp_Or_int.r1, if_neg (by omega)]
-- goods_rising_Sub.l1: another shape
def goods_Right.r1 (k : Nat) (l0_0 : List ByteArray) (l0_1 : List S71) : List S71 → Nat → Option (Bool)
  | [], i776 => ((slices_ContainsFunc_string_string.f k l0_0).bind fun t1401 => (if t1401 = true then (some false) else ((goods_rising_string.f k l0_0 8).bind fun t1409 => (if t1409 = true then ((goods_rising_Sub.f k l0_1 16).bind fun t1412 => (some t1412)) else (some false)))))
  | x1369 :: xsi776, i776 => (if (i776 : Int) ≤ (l0_1.length : Int) then ((slices_ContainsFunc_api_Sub_api_Sub.f k ((l0_1.take (i776 : Int).toNat).drop 0) x1369.f0 x1369.f1 x1369.f2 x1369.f3 x1369.f4).bind fun t1376 => (if t1376 = true then (some false) else ((goods_may.f k x1369.f0 x1369.f1 x1369.f2 x1369.f3 x1369.f4).bind fun t1389 => (if t1389 = true then ((slices_Contains_string_string.f k l0_0 x1369.f0).bind fun t1392 => (if t1392 = true then ((slices_Contains_string_string.f k l0_0 x1369.f1).bind fun t1395 => (if t1395 = true then (goods_Right.r1 k l0_0 l0_1 xsi776 (i776 + 1)) else (some false))) else (some false))) else (some false))))) else none)
set_option maxHeartbeats 1000000 in
theorem goods_Right.r1_eq (k : Nat) (l0_0 : List ByteArray) (l0_1 : List S71)  (hs : l0_1.length < 4611686018427387904) : ∀ (m i776 : Nat), l0_1.length < m + i776 → i776 ≤ l0_1.length → goods_Right.l1 k l0_0 l0_1 m (i776 : Int) = goods_Right.r1 k l0_0 l0_1 (l0_1.drop i776) i776 := by
  intro m
  induction m with
  | zero => intro i776 h hi; omega
  | succ m ih =>
    intro i776 h hi
    by_cases hc : i776 < l0_1.length
    · have hw : wrap64 ((i776 : Int) + 1) = ((i776 + 1 : Nat) : Int) := by unfold wrap64; omega
      have hg : l0_1[(i776 : Int).toNat]? = some l0_1[i776] := by rw [Int.toNat_natCast]; exact List.getElem?_eq_getElem hc
      have ih2 := ih (i776 + 1) (by omega) (by omega)
      rw [List.drop_eq_getElem_cons hc, goods_Right.l1, goods_Right.r1, if_pos (by omega), if_pos (by omega), hg, Option.bind_some]
      simp only [hw, ih2]
    · rw [List.drop_of_length_le (by omega), goods_Right.l1, goods_Right.r1, if_neg (by omega)]
def slices_IndexFunc_int_int.r1 (k : Nat) (l0 : List Int) : List Int → Nat → Option (Int)
  | [], i1503 => (some (-1))
  | x1532 :: xsi1503, i1503 => ((stock_may_1.f x1532).bind fun t1535 => (if t1535 = true then (some (i1503 : Int)) else (slices_IndexFunc_int_int.r1 k l0 xsi1503 (i1503 + 1))))
set_option maxHeartbeats 1000000 in
theorem slices_IndexFunc_int_int.r1_eq (k : Nat) (l0 : List Int)  (hs : l0.length < 4611686018427387904) : ∀ (m i1503 : Nat), l0.length < m + i1503 → i1503 ≤ l0.length → slices_IndexFunc_int_int.l1 k l0 m (i1503 : Int) = slices_IndexFunc_int_int.r1 k l0 (l0.drop i1503) i1503 := by
  intro m
  induction m with
  | zero => intro i1503 h hi; omega
  | succ m ih =>
    intro i1503 h hi
    by_cases hc : i1503 < l0.length
    · have hw : wrap64 ((i1503 : Int) + 1) = ((i1503 + 1 : Nat) : Int) := by unfold wrap64; omega
      have hg : l0[(i1503 : Int).toNat]? = some l0[i1503] := by rw [Int.toNat_natCast]; exact List.getElem?_eq_getElem hc
      have ih2 := ih (i1503 + 1) (by omega) (by omega)
      rw [List.drop_eq_getElem_cons hc, slices_IndexFunc_int_int.l1, slices_IndexFunc_int_int.r1, if_pos (by omega), if_pos (by omega), hg, Option.bind_some]
      simp only [hw, ih2]
    · rw [List.drop_of_length_le (by omega), slices_IndexFunc_int_int.l1, slices_IndexFunc_int_int.r1, if_neg (by omega)]
def stock_Right.r1 (k : Nat) (l0 : List S32) : List S32 → Nat → Option (Bool)
  | [], i1642 => (some (decide ((l0.length : Int) ≤ 8)))
  | x1693 :: xsi1642, i1642 => ((stock_may.f k x1693.f0 x1693.f1 x1693.f2 x1693.f3 x1693.f4 x1693.f5).bind fun t1697 => (if t1697 = true then (if (i1642 : Int) > 0 then (if 0 ≤ wrap64 ((i1642 : Int) - 1) then ((l0[(wrap64 ((i1642 : Int) - 1)).toNat]?).bind fun x1703 => (if (!Op.bytesLess x1703.f0.toList x1693.f0.toList) = true then (some false) else (stock_Right.r1 k l0 xsi1642 (i1642 + 1)))) else none) else (stock_Right.r1 k l0 xsi1642 (i1642 + 1))) else (some false)))
set_option maxHeartbeats 1000000 in
theorem stock_Right.r1_eq (k : Nat) (l0 : List S32)  (hs : l0.length < 4611686018427387904) : ∀ (m i1642 : Nat), l0.length < m + i1642 → i1642 ≤ l0.length → stock_Right.l1 k l0 m (i1642 : Int) = stock_Right.r1 k l0 (l0.drop i1642) i1642 := by
  intro m
  induction m with
  | zero => intro i1642 h hi; omega
  | succ m ih =>
    intro i1642 h hi
    by_cases hc : i1642 < l0.length
    · have hw : wrap64 ((i1642 : Int) + 1) = ((i1642 + 1 : Nat) : Int) := by unfold wrap64; omega
      have hg : l0[(i1642 : Int).toNat]? = some l0[i1642] := by rw [Int.toNat_natCast]; exact List.getElem?_eq_getElem hc
      have ih2 := ih (i1642 + 1) (by omega) (by omega)
      rw [List.drop_eq_getElem_cons hc, stock_Right.l1, stock_Right.r1, if_pos (by omega), if_pos (by omega), hg, Option.bind_some]
      simp only [hw, ih2]
    · rw [List.drop_of_length_le (by omega), stock_Right.l1, stock_Right.r1, if_neg (by omega)]
-- slices_BinarySearchFunc_api_Row_api_Row_string.l1: another shape
def tarryref08_Same.r1 (k : Nat) (l0 : List S32) (l1 : List S32) : List S32 → Nat → Option (Bool)
  | [], i2405 => (some true)
  | x2428 :: xsi2405, i2405 => ((l1[(i2405 : Int).toNat]?).bind fun x2429 => (if (((x2428.f0 == x2429.f0) && ((x2428.f1 == x2429.f1) && ((x2428.f2 == x2429.f2) && ((x2428.f3 == x2429.f3) && ((x2428.f4 == x2429.f4) && (x2428.f5 == x2429.f5))))))) = true then (tarryref08_Same.r1 k l0 l1 xsi2405 (i2405 + 1)) else (some false)))
set_option maxHeartbeats 1000000 in
theorem tarryref08_Same.r1_eq (k : Nat) (l0 : List S32) (l1 : List S32)  (hs : l0.length < 4611686018427387904) : ∀ (m i2405 : Nat), l0.length < m + i2405 → i2405 ≤ l0.length → tarryref08_Same.l1 k l0 l1 m (i2405 : Int) = tarryref08_Same.r1 k l0 l1 (l0.drop i2405) i2405 := by
  intro m
  induction m with
  | zero => intro i2405 h hi; omega
  | succ m ih =>
    intro i2405 h hi
    by_cases hc : i2405 < l0.length
    · have hw : wrap64 ((i2405 : Int) + 1) = ((i2405 + 1 : Nat) : Int) := by unfold wrap64; omega
      have hg : l0[(i2405 : Int).toNat]? = some l0[i2405] := by rw [Int.toNat_natCast]; exact List.getElem?_eq_getElem hc
      have ih2 := ih (i2405 + 1) (by omega) (by omega)
      rw [List.drop_eq_getElem_cons hc, tarryref08_Same.l1, tarryref08_Same.r1, if_pos (by omega), if_pos (by omega), hg, Option.bind_some]
      simp only [hw, ih2]
    · rw [List.drop_of_length_le (by omega), tarryref08_Same.l1, tarryref08_Same.r1, if_neg (by omega)]

end Go.Proofs.Ytibpoajlnloloaa.PStockApart
