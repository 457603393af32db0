/- Written by a program of this repo: what the program's functions do, each as a Lean function, shown of the loaded code; or a statement's row over that; no condition of its own. -/
import Derived.Test.YtlmpfogfgefngaaPOrderComesx0
namespace Go.Proofs.Ytlmpfogfgefngaa.POrderComes
open Go Go.RowKit Go.Proofs.YtlmpfogfgefngaaV
set_option linter.unusedVariables false
set_option linter.unusedSimpArgs false

def cmp_Or_int.r1 (k : Nat) (l0 : List Int) : List Int → Option (Int)
  | [] => (some 0)
  | x368 :: xsi342 => (if x368 = 0 then (cmp_Or_int.r1 k l0 xsi342) else (some x368))
set_option maxHeartbeats 1000000 in
theorem cmp_Or_int.r1_eq (k : Nat) (l0 : List Int)  (hs : l0.length < 4611686018427387904) : ∀ (m i342 : Nat), l0.length < m + i342 → i342 ≤ l0.length → cmp_Or_int.l1 k l0 m (i342 : Int) = cmp_Or_int.r1 k l0 (l0.drop i342) := by
  intro m
  induction m with
  | zero => intro i342 h hi; omega
  | succ m ih =>
    intro i342 h hi
    by_cases hc : i342 < l0.length
    · have hw : wrap64 ((i342 : Int) + 1) = ((i342 + 1 : Nat) : Int) := by unfold wrap64; omega
      have hg : l0[(i342 : Int).toNat]? = some l0[i342] := by rw [Int.toNat_natCast]; exact List.getElem?_eq_getElem hc
      have ih2 := ih (i342 + 1) (by omega) (by omega)
      rw [List.drop_eq_getElem_cons hc, cmp_Or_int.l1, cmp_Or_int.r1, if_pos (by omega), if_pos (by omega), hg, Option.bind_some]
      simp only [hw, ih2]
    · rw [List.drop_of_length_le (by omega), cmp_Or_int.l1, cmp_Or_int.r1, if_neg (by omega)]
def slices_IndexFunc_api_Wait_api_Wait.r1 (k : Nat) (l0 : List S59) : List S59 → Nat → Option (Int)
  | [], i563 => (some (-1))
  | x592 :: xsi563, i563 => ((queue_all_1.f x592.f0 x592.f1 x592.f2).bind fun t595 => (if t595 = true then (some (i563 : Int)) else (slices_IndexFunc_api_Wait_api_Wait.r1 k l0 xsi563 (i563 + 1))))
set_option maxHeartbeats 1000000 in
theorem slices_IndexFunc_api_Wait_api_Wait.r1_eq (k : Nat) (l0 : List S59)  (hs : l0.length < 4611686018427387904) : ∀ (m i563 : Nat), l0.length < m + i563 → i563 ≤ l0.length → slices_IndexFunc_api_Wait_api_Wait.l1 k l0 m (i563 : Int) = slices_IndexFunc_api_Wait_api_Wait.r1 k l0 (l0.drop i563) i563 := by
  intro m
  induction m with
  | zero => intro i563 h hi; omega
  | succ m ih =>
    intro i563 h hi
    by_cases hc : i563 < l0.length
    · have hw : wrap64 ((i563 : Int) + 1) = ((i563 + 1 : Nat) : Int) := by unfold wrap64; omega
      have hg : l0[(i563 : Int).toNat]? = some l0[i563] := by rw [Int.toNat_natCast]; exact List.getElem?_eq_getElem hc
      have ih2 := ih (i563 + 1) (by omega) (by omega)
      rw [List.drop_eq_getElem_cons hc, slices_IndexFunc_api_Wait_api_Wait.l1, slices_IndexFunc_api_Wait_api_Wait.r1, if_pos (by omega), if_pos (by omega), hg, Option.bind_some]
      simp only [hw, ih2]
    · rw [List.drop_of_length_le (by omega), slices_IndexFunc_api_Wait_api_Wait.l1, slices_IndexFunc_api_Wait_api_Wait.r1, if_neg (by omega)]
def queue_Right.r1 (k : Nat) (l0 : List S59) : List S59 → Nat → Option (Bool)
  | [], i440 => ((queue_all.f k l0).bind fun t627 => (some t627))
  | x621 :: xsi440, i440 => (if 0 ≤ IntKind.i64.wrap ((wrap64 ((i440 : Int) - 1)).tdiv 2) then ((l0[(IntKind.i64.wrap ((wrap64 ((i440 : Int) - 1)).tdiv 2)).toNat]?).bind fun x623 => ((queue_Less.f k x621.f0 x621.f1 x621.f2 x623.f0 x623.f1 x623.f2).bind fun t624 => (if t624 = true then (some false) else (queue_Right.r1 k l0 xsi440 (i440 + 1))))) else none)
set_option maxHeartbeats 1000000 in
theorem queue_Right.r1_eq (k : Nat) (l0 : List S59)  (hs : l0.length < 4611686018427387904) : ∀ (m i440 : Nat), l0.length < m + i440 → i440 ≤ l0.length → queue_Right.l1 k l0 m (i440 : Int) = queue_Right.r1 k l0 (l0.drop i440) i440 := by
  intro m
  induction m with
  | zero => intro i440 h hi; omega
  | succ m ih =>
    intro i440 h hi
    by_cases hc : i440 < l0.length
    · have hw : wrap64 ((i440 : Int) + 1) = ((i440 + 1 : Nat) : Int) := by unfold wrap64; omega
      have hg : l0[(i440 : Int).toNat]? = some l0[i440] := by rw [Int.toNat_natCast]; exact List.getElem?_eq_getElem hc
      have ih2 := ih (i440 + 1) (by omega) (by omega)
      rw [List.drop_eq_getElem_cons hc, queue_Right.l1, queue_Right.r1, if_pos (by omega), if_pos (by omega), hg, Option.bind_some]
      simp only [hw, ih2]
    · rw [List.drop_of_length_le (by omega), queue_Right.l1, queue_Right.r1, if_neg (by omega)]
def slices_IndexFunc_api_Sub_api_Sub.r1 (k : Nat) (a1_0_0 : ByteArray) (a1_0_1 : ByteArray) (a1_0_2 : Int) (a1_0_3 : Int) (a1_0_4 : Int) (l0 : List S93) : List S93 → Nat → Option (Int)
  | [], i763 => (some (-1))
  | x792 :: xsi763, i763 => ((goods_Right_1.f x792.f0 x792.f1 x792.f2 x792.f3 x792.f4 a1_0_0 a1_0_1 a1_0_2 a1_0_3 a1_0_4).bind fun t795 => (if t795 = true then (some (i763 : Int)) else (slices_IndexFunc_api_Sub_api_Sub.r1 k a1_0_0 a1_0_1 a1_0_2 a1_0_3 a1_0_4 l0 xsi763 (i763 + 1))))
set_option maxHeartbeats 1000000 in
theorem slices_IndexFunc_api_Sub_api_Sub.r1_eq (k : Nat) (a1_0_0 : ByteArray) (a1_0_1 : ByteArray) (a1_0_2 : Int) (a1_0_3 : Int) (a1_0_4 : Int) (l0 : List S93)  (hs : l0.length < 4611686018427387904) : ∀ (m i763 : Nat), l0.length < m + i763 → i763 ≤ l0.length → slices_IndexFunc_api_Sub_api_Sub.l1 k a1_0_0 a1_0_1 a1_0_2 a1_0_3 a1_0_4 l0 m (i763 : Int) = slices_IndexFunc_api_Sub_api_Sub.r1 k a1_0_0 a1_0_1 a1_0_2 a1_0_3 a1_0_4 l0 (l0.drop i763) i763 := by
  intro m
  induction m with
  | zero => intro i763 h hi; omega
  | succ m ih =>
    intro i763 h hi
    by_cases hc : i763 < l0.length
    · have hw : wrap64 ((i763 : Int) + 1) = ((i763 + 1 : Nat) : Int) := by unfold wrap64; omega
      have hg : l0[(i763 : Int).toNat]? = some l0[i763] := by rw [Int.toNat_natCast]; exact List.getElem?_eq_getElem hc
      have ih2 := ih (i763 + 1) (by omega) (by omega)
      rw [List.drop_eq_getElem_cons hc, slices_IndexFunc_api_Sub_api_Sub.l1, slices_IndexFunc_api_Sub_api_Sub.r1, if_pos (by omega), if_pos (by omega), hg, Option.bind_some]
      simp only [hw, ih2]
    · rw [List.drop_of_length_le (by omega), slices_IndexFunc_api_Sub_api_Sub.l1, slices_IndexFunc_api_Sub_api_Sub.r1, if_neg (by omega)]
def slices_IndexFunc_byte_byte.r1 (k : Nat) (l0 : List Int) : List Int → Nat → Option (Int)
  | [], i899 => (some (-1))
  | x928 :: xsi899, i899 => ((goods_name_1.f x928).bind fun t931 => (if t931 = true then (some (i899 : Int)) else (slices_IndexFunc_byte_byte.r1 k l0 xsi899 (i899 + 1))))
set_option maxHeartbeats 1000000 in
theorem slices_IndexFunc_byte_byte.r1_eq (k : Nat) (l0 : List Int)  (hs : l0.length < 4611686018427387904) : ∀ (m i899 : Nat), l0.length < m + i899 → i899 ≤ l0.length → slices_IndexFunc_byte_byte.l1 k l0 m (i899 : Int) = slices_IndexFunc_byte_byte.r1 k l0 (l0.drop i899) i899 := by
  intro m
  induction m with
  | zero => intro i899 h hi; omega
  | succ m ih =>
    intro i899 h hi
    by_cases hc : i899 < l0.length
    · have hw : wrap64 ((i899 : Int) + 1) = ((i899 + 1 : Nat) : Int) := by unfold wrap64; omega
      have hg : l0[(i899 : Int).toNat]? = some l0[i899] := by rw [Int.toNat_natCast]; exact List.getElem?_eq_getElem hc
      have ih2 := ih (i899 + 1) (by omega) (by omega)
      rw [List.drop_eq_getElem_cons hc, slices_IndexFunc_byte_byte.l1, slices_IndexFunc_byte_byte.r1, if_pos (by omega), if_pos (by omega), hg, Option.bind_some]
      simp only [hw, ih2]
    · rw [List.drop_of_length_le (by omega), slices_IndexFunc_byte_byte.l1, slices_IndexFunc_byte_byte.r1, if_neg (by omega)]
def slices_Index_string_string.r1 (k : Nat) (a1 : ByteArray) (l0 : List ByteArray) : List ByteArray → Nat → Option (Int)
  | [], i1050 => (some (-1))
  | x1076 :: xsi1050, i1050 => (if (a1 == x1076) = true then (some (i1050 : Int)) else (slices_Index_string_string.r1 k a1 l0 xsi1050 (i1050 + 1)))
set_option maxHeartbeats 1000000 in
theorem slices_Index_string_string.r1_eq (k : Nat) (a1 : ByteArray) (l0 : List ByteArray)  (hs : l0.length < 4611686018427387904) : ∀ (m i1050 : Nat), l0.length < m + i1050 → i1050 ≤ l0.length → slices_Index_string_string.l1 k a1 l0 m (i1050 : Int) = slices_Index_string_string.r1 k a1 l0 (l0.drop i1050) i1050 := by
  intro m
  induction m with
  | zero => intro i1050 h hi; omega
  | succ m ih =>
    intro i1050 h hi
    by_cases hc : i1050 < l0.length
    · have hw : wrap64 ((i1050 : Int) + 1) = ((i1050 + 1 : Nat) : Int) := by unfold wrap64; omega
      have hg : l0[(i1050 : Int).toNat]? = some l0[i1050] := by rw [Int.toNat_natCast]; exact List.getElem?_eq_getElem hc
      have ih2 := ih (i1050 + 1) (by omega) (by omega)
      rw [List.drop_eq_getElem_cons hc, slices_Index_string_string.l1, slices_Index_string_string.r1, if_pos (by omega), if_pos (by omega), hg, Option.bind_some]
      simp only [hw, ih2]
    · rw [List.drop_of_length_le (by omega), slices_Index_string_string.l1, slices_Index_string_string.r1, if_neg (by omega)]
def slices_IndexFunc_string_string.r1 (k : Nat) (l0 : List ByteArray) : List ByteArray → Nat → Option (Int)
  | [], i1456 => (some (-1))
  | x1485 :: xsi1456, i1456 => ((goods_Right_2.f k x1485).bind fun t1488 => (if t1488 = true then (some (i1456 : Int)) else (slices_IndexFunc_string_string.r1 k l0 xsi1456 (i1456 + 1))))
set_option maxHeartbeats 1000000 in
theorem slices_IndexFunc_string_string.r1_eq (k : Nat) (l0 : List ByteArray)  (hs : l0.length < 4611686018427387904) : ∀ (m i1456 : Nat), l0.length < m + i1456 → i1456 ≤ l0.length → slices_IndexFunc_string_string.l1 k l0 m (i1456 : Int) = slices_IndexFunc_string_string.r1 k l0 (l0.drop i1456) i1456 := by
  intro m
  induction m with
  | zero => intro i1456 h hi; omega
  | succ m ih =>
    intro i1456 h hi
    by_cases hc : i1456 < l0.length
    · have hw : wrap64 ((i1456 : Int) + 1) = ((i1456 + 1 : Nat) : Int) := by unfold wrap64; omega
      have hg : l0[(i1456 : Int).toNat]? = some l0[i1456] := by rw [Int.toNat_natCast]; exact List.getElem?_eq_getElem hc
      have ih2 := ih (i1456 + 1) (by omega) (by omega)
      rw [List.drop_eq_getElem_cons hc, slices_IndexFunc_string_string.l1, slices_IndexFunc_string_string.r1, if_pos (by omega), if_pos (by omega), hg, Option.bind_some]
      simp only [hw, ih2]
    · rw [List.drop_of_length_le (by omega), slices_IndexFunc_string_string.l1, slices_IndexFunc_string_string.r1, if_neg (by omega)]
-- goods_rising_string.l1: another shape
-- goods_rising_Sub.l1: another shape
def goods_Right.r1 (k : Nat) (l0_0 : List ByteArray) (l0_1 : List S93) : List S93 → Nat → Option (Bool)
  | [], i1317 => ((slices_ContainsFunc_string_string.f k l0_0).bind fun t1832 => (if t1832 = true then (some false) else ((goods_rising_string.f k l0_0 8).bind fun t1840 => (if t1840 = true then ((goods_rising_Sub.f k l0_1 16).bind fun t1843 => (some t1843)) else (some false)))))
  | x1800 :: xsi1317, i1317 => (if (i1317 : Int) ≤ (l0_1.length : Int) then ((slices_ContainsFunc_api_Sub_api_Sub.f k ((l0_1.take (i1317 : Int).toNat).drop 0) x1800.f0 x1800.f1 x1800.f2 x1800.f3 x1800.f4).bind fun t1807 => (if t1807 = true then (some false) else ((goods_may.f k x1800.f0 x1800.f1 x1800.f2 x1800.f3 x1800.f4).bind fun t1820 => (if t1820 = true then ((slices_Contains_string_string.f k l0_0 x1800.f0).bind fun t1823 => (if t1823 = true then ((slices_Contains_string_string.f k l0_0 x1800.f1).bind fun t1826 => (if t1826 = true then (goods_Right.r1 k l0_0 l0_1 xsi1317 (i1317 + 1)) else (some false))) else (some false))) else (some false))))) else none)
set_option maxHeartbeats 1000000 in
theorem goods_Right.r1_eq (k : Nat) (l0_0 : List ByteArray) (l0_1 : List S93)  (hs : l0_1.length < 4611686018427387904) : ∀ (m i1317 : Nat), l0_1.length < m + i1317 → i1317 ≤ l0_1.length → goods_Right.l1 k l0_0 l0_1 m (i1317 : Int) = goods_Right.r1 k l0_0 l0_1 (l0_1.drop i1317) i1317 := by
  intro m
  induction m with
  | zero => intro i1317 h hi; omega
  | succ m ih =>
    intro i1317 h hi
    by_cases hc : i1317 < l0_1.length
    · have hw : wrap64 ((i1317 : Int) + 1) = ((i1317 + 1 : Nat) : Int) := by unfold wrap64; omega
      have hg : l0_1[(i1317 : Int).toNat]? = some l0_1[i1317] := by rw [Int.toNat_natCast]; exact List.getElem?_eq_getElem hc
      have ih2 := ih (i1317 + 1) (by omega) (by omega)
      rw [List.drop_eq_getElem_cons hc, goods_Right.l1, goods_Right.r1, if_pos (by omega), if_pos (by omega), hg, Option.bind_some]
      simp only [hw, ih2]
    · rw [List.drop_of_length_le (by omega), goods_Right.l1, goods_Right.r1, if_neg (by omega)]
-- tarryref07_Name.l1: another shape

end Go.Proofs.Ytlmpfogfgefngaa.POrderComes
