/- Written by a program of this repo: what the program's functions do, each as a Lean function, shown of the loaded code; or a statement's row over that; no condition of its own. -/
import Derived.Test.YtlmpfogfgefngaaPOrderGoesx0
namespace Go.Proofs.Ytlmpfogfgefngaa.POrderGoes
open Go Go.RowKit Go.Proofs.YtlmpfogfgefngaaV
set_option linter.unusedVariables false
set_option linter.unusedSimpArgs false

def cmp_Or_int.r1 (k : Nat) (l0 : List Int) : List Int → Option (Int)
  | [] => (some 0)
  | x232 :: xsi206 => (if x232 = 0 then (cmp_Or_int.r1 k l0 xsi206) else (some x232))
set_option maxHeartbeats 1000000 in
theorem cmp_Or_int.r1_eq (k : Nat) (l0 : List Int)  (hs : l0.length < 4611686018427387904) : ∀ (m i206 : Nat), l0.length < m + i206 → i206 ≤ l0.length → cmp_Or_int.l1 k l0 m (i206 : Int) = cmp_Or_int.r1 k l0 (l0.drop i206) := by
  intro m
  induction m with
  | zero => intro i206 h hi; omega
  | succ m ih =>
    intro i206 h hi
    by_cases hc : i206 < l0.length
    · have hw : wrap64 ((i206 : Int) + 1) = ((i206 + 1 : Nat) : Int) := by unfold wrap64; omega
      have hg : l0[(i206 : Int).toNat]? = some l0[i206] := by rw [Int.toNat_natCast]; exact List.getElem?_eq_getElem hc
      have ih2 := ih (i206 + 1) (by omega) (by omega)
      rw [List.drop_eq_getElem_cons hc, cmp_Or_int.l1, cmp_Or_int.r1, if_pos (by omega), if_pos (by omega), hg, Option.bind_some]
      simp only [hw, ih2]
    · rw [List.drop_of_length_le (by omega), cmp_Or_int.l1, cmp_Or_int.r1, if_neg (by omega)]
def slices_IndexFunc_api_Wait_api_Wait.r1 (k : Nat) (l0 : List S59) : List S59 → Nat → Option (Int)
  | [], i427 => (some (-1))
  | x456 :: xsi427, i427 => ((queue_all_1.f x456.f0 x456.f1 x456.f2).bind fun t459 => (if t459 = true then (some (i427 : Int)) else (slices_IndexFunc_api_Wait_api_Wait.r1 k l0 xsi427 (i427 + 1))))
set_option maxHeartbeats 1000000 in
theorem slices_IndexFunc_api_Wait_api_Wait.r1_eq (k : Nat) (l0 : List S59)  (hs : l0.length < 4611686018427387904) : ∀ (m i427 : Nat), l0.length < m + i427 → i427 ≤ l0.length → slices_IndexFunc_api_Wait_api_Wait.l1 k l0 m (i427 : Int) = slices_IndexFunc_api_Wait_api_Wait.r1 k l0 (l0.drop i427) i427 := by
  intro m
  induction m with
  | zero => intro i427 h hi; omega
  | succ m ih =>
    intro i427 h hi
    by_cases hc : i427 < l0.length
    · have hw : wrap64 ((i427 : Int) + 1) = ((i427 + 1 : Nat) : Int) := by unfold wrap64; omega
      have hg : l0[(i427 : Int).toNat]? = some l0[i427] := by rw [Int.toNat_natCast]; exact List.getElem?_eq_getElem hc
      have ih2 := ih (i427 + 1) (by omega) (by omega)
      rw [List.drop_eq_getElem_cons hc, slices_IndexFunc_api_Wait_api_Wait.l1, slices_IndexFunc_api_Wait_api_Wait.r1, if_pos (by omega), if_pos (by omega), hg, Option.bind_some]
      simp only [hw, ih2]
    · rw [List.drop_of_length_le (by omega), slices_IndexFunc_api_Wait_api_Wait.l1, slices_IndexFunc_api_Wait_api_Wait.r1, if_neg (by omega)]
def queue_Right.r1 (k : Nat) (l0 : List S59) : List S59 → Nat → Option (Bool)
  | [], i304 => ((queue_all.f k l0).bind fun t491 => (some t491))
  | x485 :: xsi304, i304 => (if 0 ≤ IntKind.i64.wrap ((wrap64 ((i304 : Int) - 1)).tdiv 2) then ((l0[(IntKind.i64.wrap ((wrap64 ((i304 : Int) - 1)).tdiv 2)).toNat]?).bind fun x487 => ((queue_Less.f k x485.f0 x485.f1 x485.f2 x487.f0 x487.f1 x487.f2).bind fun t488 => (if t488 = true then (some false) else (queue_Right.r1 k l0 xsi304 (i304 + 1))))) else none)
set_option maxHeartbeats 1000000 in
theorem queue_Right.r1_eq (k : Nat) (l0 : List S59)  (hs : l0.length < 4611686018427387904) : ∀ (m i304 : Nat), l0.length < m + i304 → i304 ≤ l0.length → queue_Right.l1 k l0 m (i304 : Int) = queue_Right.r1 k l0 (l0.drop i304) i304 := by
  intro m
  induction m with
  | zero => intro i304 h hi; omega
  | succ m ih =>
    intro i304 h hi
    by_cases hc : i304 < l0.length
    · have hw : wrap64 ((i304 : Int) + 1) = ((i304 + 1 : Nat) : Int) := by unfold wrap64; omega
      have hg : l0[(i304 : Int).toNat]? = some l0[i304] := by rw [Int.toNat_natCast]; exact List.getElem?_eq_getElem hc
      have ih2 := ih (i304 + 1) (by omega) (by omega)
      rw [List.drop_eq_getElem_cons hc, queue_Right.l1, queue_Right.r1, if_pos (by omega), if_pos (by omega), hg, Option.bind_some]
      simp only [hw, ih2]
    · rw [List.drop_of_length_le (by omega), queue_Right.l1, queue_Right.r1, if_neg (by omega)]
def slices_IndexFunc_api_Sub_api_Sub.r1 (k : Nat) (a1_0_0 : ByteArray) (a1_0_1 : ByteArray) (a1_0_2 : Int) (a1_0_3 : Int) (a1_0_4 : Int) (l0 : List S93) : List S93 → Nat → Option (Int)
  | [], i633 => (some (-1))
  | x662 :: xsi633, i633 => ((goods_Right_1.f x662.f0 x662.f1 x662.f2 x662.f3 x662.f4 a1_0_0 a1_0_1 a1_0_2 a1_0_3 a1_0_4).bind fun t665 => (if t665 = true then (some (i633 : Int)) else (slices_IndexFunc_api_Sub_api_Sub.r1 k a1_0_0 a1_0_1 a1_0_2 a1_0_3 a1_0_4 l0 xsi633 (i633 + 1))))
set_option maxHeartbeats 1000000 in
theorem slices_IndexFunc_api_Sub_api_Sub.r1_eq (k : Nat) (a1_0_0 : ByteArray) (a1_0_1 : ByteArray) (a1_0_2 : Int) (a1_0_3 : Int) (a1_0_4 : Int) (l0 : List S93)  (hs : l0.length < 4611686018427387904) : ∀ (m i633 : Nat), l0.length < m + i633 → i633 ≤ l0.length → slices_IndexFunc_api_Sub_api_Sub.l1 k a1_0_0 a1_0_1 a1_0_2 a1_0_3 a1_0_4 l0 m (i633 : Int) = slices_IndexFunc_api_Sub_api_Sub.r1 k a1_0_0 a1_0_1 a1_0_2 a1_0_3 a1_0_4 l0 (l0.drop i633) i633 := by
  intro m
  induction m with
  | zero => intro i633 h hi; omega
  | succ m ih =>
    intro i633 h hi
    by_cases hc : i633 < l0.length
    · have hw : wrap64 ((i633 : Int) + 1) = ((i633 + 1 : Nat) : Int) := by unfold wrap64; omega
      have hg : l0[(i633 : Int).toNat]? = some l0[i633] := by rw [Int.toNat_natCast]; exact List.getElem?_eq_getElem hc
      have ih2 := ih (i633 + 1) (by omega) (by omega)
      rw [List.drop_eq_getElem_cons hc, slices_IndexFunc_api_Sub_api_Sub.l1, slices_IndexFunc_api_Sub_api_Sub.r1, if_pos (by omega), if_pos (by omega), hg, Option.bind_some]
      simp only [hw, ih2]
    · rw [List.drop_of_length_le (by omega), slices_IndexFunc_api_Sub_api_Sub.l1, slices_IndexFunc_api_Sub_api_Sub.r1, if_neg (by omega)]
def slices_IndexFunc_byte_byte.r1 (k : Nat) (l0 : List Int) : List Int → Nat → Option (Int)
  | [], i769 => (some (-1))
  | x798 :: xsi769, i769 => ((goods_name_1.f x798).bind fun t801 => (if t801 = true then (some (i769 : Int)) else (slices_IndexFunc_byte_byte.r1 k l0 xsi769 (i769 + 1))))
set_option maxHeartbeats 1000000 in
theorem slices_IndexFunc_byte_byte.r1_eq (k : Nat) (l0 : List Int)  (hs : l0.length < 4611686018427387904) : ∀ (m i769 : Nat), l0.length < m + i769 → i769 ≤ l0.length → slices_IndexFunc_byte_byte.l1 k l0 m (i769 : Int) = slices_IndexFunc_byte_byte.r1 k l0 (l0.drop i769) i769 := by
  intro m
  induction m with
  | zero => intro i769 h hi; omega
  | succ m ih =>
    intro i769 h hi
    by_cases hc : i769 < l0.length
    · have hw : wrap64 ((i769 : Int) + 1) = ((i769 + 1 : Nat) : Int) := by unfold wrap64; omega
      have hg : l0[(i769 : Int).toNat]? = some l0[i769] := by rw [Int.toNat_natCast]; exact List.getElem?_eq_getElem hc
      have ih2 := ih (i769 + 1) (by omega) (by omega)
      rw [List.drop_eq_getElem_cons hc, slices_IndexFunc_byte_byte.l1, slices_IndexFunc_byte_byte.r1, if_pos (by omega), if_pos (by omega), hg, Option.bind_some]
      simp only [hw, ih2]
    · rw [List.drop_of_length_le (by omega), slices_IndexFunc_byte_byte.l1, slices_IndexFunc_byte_byte.r1, if_neg (by omega)]
def slices_Index_string_string.r1 (k : Nat) (a1 : ByteArray) (l0 : List ByteArray) : List ByteArray → Nat → Option (Int)
  | [], i920 => (some (-1))
  | x946 :: xsi920, i920 => (if (a1 == x946) = true then (some (i920 : Int)) else (slices_Index_string_string.r1 k a1 l0 xsi920 (i920 + 1)))
set_option maxHeartbeats 1000000 in
theorem slices_Index_string_string.r1_eq (k : Nat) (a1 : ByteArray) (l0 : List ByteArray)  (hs : l0.length < 4611686018427387904) : ∀ (m i920 : Nat), l0.length < m + i920 → i920 ≤ l0.length → slices_Index_string_string.l1 k a1 l0 m (i920 : Int) = slices_Index_string_string.r1 k a1 l0 (l0.drop i920) i920 := by
  intro m
  induction m with
  | zero => intro i920 h hi; omega
  | succ m ih =>
    intro i920 h hi
    by_cases hc : i920 < l0.length
    · have hw : wrap64 ((i920 : Int) + 1) = ((i920 + 1 : Nat) : Int) := by unfold wrap64; omega
      have hg : l0[(i920 : Int).toNat]? = some l0[i920] := by rw [Int.toNat_natCast]; exact List.getElem?_eq_getElem hc
      have ih2 := ih (i920 + 1) (by omega) (by omega)
      rw [List.drop_eq_getElem_cons hc, slices_Index_string_string.l1, slices_Index_string_string.r1, if_pos (by omega), if_pos (by omega), hg, Option.bind_some]
      simp only [hw, ih2]
    · rw [List.drop_of_length_le (by omega), slices_Index_string_string.l1, slices_Index_string_string.r1, if_neg (by omega)]
def slices_IndexFunc_string_string.r1 (k : Nat) (l0 : List ByteArray) : List ByteArray → Nat → Option (Int)
  | [], i1326 => (some (-1))
  | x1355 :: xsi1326, i1326 => ((goods_Right_2.f k x1355).bind fun t1358 => (if t1358 = true then (some (i1326 : Int)) else (slices_IndexFunc_string_string.r1 k l0 xsi1326 (i1326 + 1))))
set_option maxHeartbeats 1000000 in
theorem slices_IndexFunc_string_string.r1_eq (k : Nat) (l0 : List ByteArray)  (hs : l0.length < 4611686018427387904) : ∀ (m i1326 : Nat), l0.length < m + i1326 → i1326 ≤ l0.length → slices_IndexFunc_string_string.l1 k l0 m (i1326 : Int) = slices_IndexFunc_string_string.r1 k l0 (l0.drop i1326) i1326 := by
  intro m
  induction m with
  | zero => intro i1326 h hi; omega
  | succ m ih =>
    intro i1326 h hi
    by_cases hc : i1326 < l0.length
    · have hw : wrap64 ((i1326 : Int) + 1) = ((i1326 + 1 : Nat) : Int) := by unfold wrap64; omega
      have hg : l0[(i1326 : Int).toNat]? = some l0[i1326] := by rw [Int.toNat_natCast]; exact List.getElem?_eq_getElem hc
      have ih2 := ih (i1326 + 1) (by omega) (by omega)
      rw [List.drop_eq_getElem_cons hc, slices_IndexFunc_string_string.l1, slices_IndexFunc_string_string.r1, if_pos (by omega), if_pos (by omega), hg, Option.bind_some]
      simp only [hw, ih2]
    · rw [List.drop_of_length_le (by omega), slices_IndexFunc_string_string.l1, slices_IndexFunc_string_string.r1, if_neg (by omega)]
-- goods_rising_string.l1: another shape
-- goods_rising_Sub.l1: another shape
def goods_Right.r1 (k : Nat) (l0_0 : List ByteArray) (l0_1 : List S93) : List S93 → Nat → Option (Bool)
  | [], i1187 => ((slices_ContainsFunc_string_string.f k l0_0).bind fun t1702 => (if t1702 = true then (some false) else ((goods_rising_string.f k l0_0 8).bind fun t1710 => (if t1710 = true then ((goods_rising_Sub.f k l0_1 16).bind fun t1713 => (some t1713)) else (some false)))))
  | x1670 :: xsi1187, i1187 => (if (i1187 : Int) ≤ (l0_1.length : Int) then ((slices_ContainsFunc_api_Sub_api_Sub.f k ((l0_1.take (i1187 : Int).toNat).drop 0) x1670.f0 x1670.f1 x1670.f2 x1670.f3 x1670.f4).bind fun t1677 => (if t1677 = true then (some false) else ((goods_may.f k x1670.f0 x1670.f1 x1670.f2 x1670.f3 x1670.f4).bind fun t1690 => (if t1690 = true then ((slices_Contains_string_string.f k l0_0 x1670.f0).bind fun t1693 => (if t1693 = true then ((slices_Contains_string_string.f k l0_0 x1670.f1).bind fun t1696 => (if t1696 = true then (goods_Right.r1 k l0_0 l0_1 xsi1187 (i1187 + 1)) else (some false))) else (some false))) else (some false))))) else none)
set_option maxHeartbeats 1000000 in
theorem goods_Right.r1_eq (k : Nat) (l0_0 : List ByteArray) (l0_1 : List S93)  (hs : l0_1.length < 4611686018427387904) : ∀ (m i1187 : Nat), l0_1.length < m + i1187 → i1187 ≤ l0_1.length → goods_Right.l1 k l0_0 l0_1 m (i1187 : Int) = goods_Right.r1 k l0_0 l0_1 (l0_1.drop i1187) i1187 := by
  intro m
  induction m with
  | zero => intro i1187 h hi; omega
  | succ m ih =>
    intro i1187 h hi
    by_cases hc : i1187 < l0_1.length
    · have hw : wrap64 ((i1187 : Int) + 1) = ((i1187 + 1 : Nat) : Int) := by unfold wrap64; omega
      have hg : l0_1[(i1187 : Int).toNat]? = some l0_1[i1187] := by rw [Int.toNat_natCast]; exact List.getElem?_eq_getElem hc
      have ih2 := ih (i1187 + 1) (by omega) (by omega)
      rw [List.drop_eq_getElem_cons hc, goods_Right.l1, goods_Right.r1, if_pos (by omega), if_pos (by omega), hg, Option.bind_some]
      simp only [hw, ih2]
    · rw [List.drop_of_length_le (by omega), goods_Right.l1, goods_Right.r1, if_neg (by omega)]
-- tarryref07_Name.l1: another shape

end Go.Proofs.Ytlmpfogfgefngaa.POrderGoes
