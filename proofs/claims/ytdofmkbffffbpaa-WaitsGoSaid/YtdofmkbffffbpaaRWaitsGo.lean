/- Written by a program of this repo: what the program's functions do, each as a Lean function, shown of the loaded code; or a statement's row over that; no condition of its own. -/
import Derived.Test.YtdofmkbffffbpaaPWaitsGox0
namespace Go.Proofs.Ytdofmkbffffbpaa.PWaitsGo
open Go Go.RowKit Go.Proofs.YtdofmkbffffbpaaV
set_option linter.unusedVariables false
set_option linter.unusedSimpArgs false

def tarrylaw09_few.r1 (k : Nat) (l0 : List S25) : List S25 → (List S25) → Option (List S25)
  | [], l94 => (some l94)
  | x119 :: xsi96, l94 => ((tarrylaw09_cut.f x119.f0 x119.f1 x119.f2 x119.f3).bind fun ⟨t123, t124, t125, t126⟩ => (if (l94.length + ([(⟨t123, t124, t125, t126⟩ : S25)] : List S25).length) * 40 ≤ 140737488355328 then (tarrylaw09_few.r1 k l0 xsi96 (l94 ++ ([(⟨t123, t124, t125, t126⟩ : S25)] : List S25))) else none))
set_option maxHeartbeats 1000000 in
theorem tarrylaw09_few.r1_eq (k : Nat) (l0 : List S25)  (hs : ((l0.take ((mn (l0.length : Int) 34).toNat)).drop 0).length < 4611686018427387904) : ∀ (m i96 : Nat) (l94 : List S25), ((l0.take ((mn (l0.length : Int) 34).toNat)).drop 0).length < m + i96 → i96 ≤ ((l0.take ((mn (l0.length : Int) 34).toNat)).drop 0).length → tarrylaw09_few.l1 k l0 m l94 (i96 : Int) = tarrylaw09_few.r1 k l0 (((l0.take ((mn (l0.length : Int) 34).toNat)).drop 0).drop i96) l94 := by
  intro m
  induction m with
  | zero => intro i96 l94 h hi; omega
  | succ m ih =>
    intro i96 l94 h hi
    by_cases hc : i96 < ((l0.take ((mn (l0.length : Int) 34).toNat)).drop 0).length
    · have hw : wrap64 ((i96 : Int) + 1) = ((i96 + 1 : Nat) : Int) := by unfold wrap64; omega
      have hg : ((l0.take ((mn (l0.length : Int) 34).toNat)).drop 0)[(i96 : Int).toNat]? = some ((l0.take ((mn (l0.length : Int) 34).toNat)).drop 0)[i96] := by rw [Int.toNat_natCast]; exact List.getElem?_eq_getElem hc
      have ih2 := fun l94 => ih (i96 + 1) l94 (by omega) (by omega)
      rw [List.drop_eq_getElem_cons hc, tarrylaw09_few.l1, tarrylaw09_few.r1, if_pos (by omega), if_pos (by omega), hg, Option.bind_some]
      simp only [hw, ih2]
    · rw [List.drop_of_length_le (by omega), tarrylaw09_few.l1, tarrylaw09_few.r1, if_neg (by omega)]
def slices_IndexFunc_api_Sub_api_Sub.r1 (k : Nat) (a1_0_0 : ByteArray) (a1_0_1 : ByteArray) (a1_0_2 : Int) (a1_0_3 : Int) (a1_0_4 : Int) (l0 : List S93) : List S93 → Nat → Option (Int)
  | [], i241 => (some (-1))
  | x270 :: xsi241, i241 => ((goods_Right_1.f x270.f0 x270.f1 x270.f2 x270.f3 x270.f4 a1_0_0 a1_0_1 a1_0_2 a1_0_3 a1_0_4).bind fun t273 => (if t273 = true then (some (i241 : Int)) else (slices_IndexFunc_api_Sub_api_Sub.r1 k a1_0_0 a1_0_1 a1_0_2 a1_0_3 a1_0_4 l0 xsi241 (i241 + 1))))
set_option maxHeartbeats 1000000 in
theorem slices_IndexFunc_api_Sub_api_Sub.r1_eq (k : Nat) (a1_0_0 : ByteArray) (a1_0_1 : ByteArray) (a1_0_2 : Int) (a1_0_3 : Int) (a1_0_4 : Int) (l0 : List S93)  (hs : l0.length < 4611686018427387904) : ∀ (m i241 : Nat), l0.length < m + i241 → i241 ≤ l0.length → slices_IndexFunc_api_Sub_api_Sub.l1 k a1_0_0 a1_0_1 a1_0_2 a1_0_3 a1_0_4 l0 m (i241 : Int) = slices_IndexFunc_api_Sub_api_Sub.r1 k a1_0_0 a1_0_1 a1_0_2 a1_0_3 a1_0_4 l0 (l0.drop i241) i241 := by
  intro m
  induction m with
  | zero => intro i241 h hi; omega
  | succ m ih =>
    intro i241 h hi
    by_cases hc : i241 < l0.length
    · have hw : wrap64 ((i241 : Int) + 1) = ((i241 + 1 : Nat) : Int) := by unfold wrap64; omega
      have hg : l0[(i241 : Int).toNat]? = some l0[i241] := by rw [Int.toNat_natCast]; exact List.getElem?_eq_getElem hc
      have ih2 := ih (i241 + 1) (by omega) (by omega)
      rw [List.drop_eq_getElem_cons hc, slices_IndexFunc_api_Sub_api_Sub.l1, slices_IndexFunc_api_Sub_api_Sub.r1, if_pos (by omega), if_pos (by omega), hg, Option.bind_some]
      simp only [hw, ih2]
    · rw [List.drop_of_length_le (by omega), slices_IndexFunc_api_Sub_api_Sub.l1, slices_IndexFunc_api_Sub_api_Sub.r1, if_neg (by omega)]
def slices_IndexFunc_byte_byte.r1 (k : Nat) (l0 : List Int) : List Int → Nat → Option (Int)
  | [], i377 => (some (-1))
  | x406 :: xsi377, i377 => ((goods_name_1.f x406).bind fun t409 => (if t409 = true then (some (i377 : Int)) else (slices_IndexFunc_byte_byte.r1 k l0 xsi377 (i377 + 1))))
set_option maxHeartbeats 1000000 in
theorem slices_IndexFunc_byte_byte.r1_eq (k : Nat) (l0 : List Int)  (hs : l0.length < 4611686018427387904) : ∀ (m i377 : Nat), l0.length < m + i377 → i377 ≤ l0.length → slices_IndexFunc_byte_byte.l1 k l0 m (i377 : Int) = slices_IndexFunc_byte_byte.r1 k l0 (l0.drop i377) i377 := by
  intro m
  induction m with
  | zero => intro i377 h hi; omega
  | succ m ih =>
    intro i377 h hi
    by_cases hc : i377 < l0.length
    · have hw : wrap64 ((i377 : Int) + 1) = ((i377 + 1 : Nat) : Int) := by unfold wrap64; omega
      have hg : l0[(i377 : Int).toNat]? = some l0[i377] := by rw [Int.toNat_natCast]; exact List.getElem?_eq_getElem hc
      have ih2 := ih (i377 + 1) (by omega) (by omega)
      rw [List.drop_eq_getElem_cons hc, slices_IndexFunc_byte_byte.l1, slices_IndexFunc_byte_byte.r1, if_pos (by omega), if_pos (by omega), hg, Option.bind_some]
      simp only [hw, ih2]
    · rw [List.drop_of_length_le (by omega), slices_IndexFunc_byte_byte.l1, slices_IndexFunc_byte_byte.r1, if_neg (by omega)]
def slices_Index_string_string.r1 (k : Nat) (a1 : ByteArray) (l0 : List ByteArray) : List ByteArray → Nat → Option (Int)
  | [], i528 => (some (-1))
  | x554 :: xsi528, i528 => (if (a1 == x554) = true then (some (i528 : Int)) else (slices_Index_string_string.r1 k a1 l0 xsi528 (i528 + 1)))
set_option maxHeartbeats 1000000 in
theorem slices_Index_string_string.r1_eq (k : Nat) (a1 : ByteArray) (l0 : List ByteArray)  (hs : l0.length < 4611686018427387904) : ∀ (m i528 : Nat), l0.length < m + i528 → i528 ≤ l0.length → slices_Index_string_string.l1 k a1 l0 m (i528 : Int) = slices_Index_string_string.r1 k a1 l0 (l0.drop i528) i528 := by
  intro m
  induction m with
  | zero => intro i528 h hi; omega
  | succ m ih =>
    intro i528 h hi
    by_cases hc : i528 < l0.length
    · have hw : wrap64 ((i528 : Int) + 1) = ((i528 + 1 : Nat) : Int) := by unfold wrap64; omega
      have hg : l0[(i528 : Int).toNat]? = some l0[i528] := by rw [Int.toNat_natCast]; exact List.getElem?_eq_getElem hc
      have ih2 := ih (i528 + 1) (by omega) (by omega)
      rw [List.drop_eq_getElem_cons hc, slices_Index_string_string.l1, slices_Index_string_string.r1, if_pos (by omega), if_pos (by omega), hg, Option.bind_some]
      simp only [hw, ih2]
    · rw [List.drop_of_length_le (by omega), slices_Index_string_string.l1, slices_Index_string_string.r1, if_neg (by omega)]
def slices_IndexFunc_string_string.r1 (k : Nat) (l0 : List ByteArray) : List ByteArray → Nat → Option (Int)
  | [], i934 => (some (-1))
  | x963 :: xsi934, i934 => ((goods_Right_2.f k x963).bind fun t966 => (if t966 = true then (some (i934 : Int)) else (slices_IndexFunc_string_string.r1 k l0 xsi934 (i934 + 1))))
set_option maxHeartbeats 1000000 in
theorem slices_IndexFunc_string_string.r1_eq (k : Nat) (l0 : List ByteArray)  (hs : l0.length < 4611686018427387904) : ∀ (m i934 : Nat), l0.length < m + i934 → i934 ≤ l0.length → slices_IndexFunc_string_string.l1 k l0 m (i934 : Int) = slices_IndexFunc_string_string.r1 k l0 (l0.drop i934) i934 := by
  intro m
  induction m with
  | zero => intro i934 h hi; omega
  | succ m ih =>
    intro i934 h hi
    by_cases hc : i934 < l0.length
    · have hw : wrap64 ((i934 : Int) + 1) = ((i934 + 1 : Nat) : Int) := by unfold wrap64; omega
      have hg : l0[(i934 : Int).toNat]? = some l0[i934] := by rw [Int.toNat_natCast]; exact List.getElem?_eq_getElem hc
      have ih2 := ih (i934 + 1) (by omega) (by omega)
      rw [List.drop_eq_getElem_cons hc, slices_IndexFunc_string_string.l1, slices_IndexFunc_string_string.r1, if_pos (by omega), if_pos (by omega), hg, Option.bind_some]
      simp only [hw, ih2]
    · rw [List.drop_of_length_le (by omega), slices_IndexFunc_string_string.l1, slices_IndexFunc_string_string.r1, if_neg (by omega)]
-- goods_rising_string.l1: another shape
def cmp_Or_int.r1 (k : Nat) (l0 : List Int) : List Int → Option (Int)
  | [] => (some 0)
  | x1229 :: xsi1203 => (if x1229 = 0 then (cmp_Or_int.r1 k l0 xsi1203) else (some x1229))
set_option maxHeartbeats 1000000 in
theorem cmp_Or_int.r1_eq (k : Nat) (l0 : List Int)  (hs : l0.length < 4611686018427387904) : ∀ (m i1203 : Nat), l0.length < m + i1203 → i1203 ≤ l0.length → cmp_Or_int.l1 k l0 m (i1203 : Int) = cmp_Or_int.r1 k l0 (l0.drop i1203) := by
  intro m
  induction m with
  | zero => intro i1203 h hi; omega
  | succ m ih =>
    intro i1203 h hi
    by_cases hc : i1203 < l0.length
    · have hw : wrap64 ((i1203 : Int) + 1) = ((i1203 + 1 : Nat) : Int) := by unfold wrap64; omega
      have hg : l0[(i1203 : Int).toNat]? = some l0[i1203] := by rw [Int.toNat_natCast]; exact List.getElem?_eq_getElem hc
      have ih2 := ih (i1203 + 1) (by omega) (by omega)
      rw [List.drop_eq_getElem_cons hc, cmp_Or_int.l1, cmp_Or_int.r1, if_pos (by omega), if_pos (by omega), hg, Option.bind_some]
      simp only [hw, ih2]
    · rw [List.drop_of_length_le (by omega), cmp_Or_int.l1, cmp_Or_int.r1, if_neg (by omega)]
-- goods_rising_Sub.l1: another shape
def goods_Right.r1 (k : Nat) (l0_0 : List ByteArray) (l0_1 : List S93) : List S93 → Nat → Option (Bool)
  | [], i795 => ((slices_ContainsFunc_string_string.f k l0_0).bind fun t1420 => (if t1420 = true then (some false) else ((goods_rising_string.f k l0_0 8).bind fun t1428 => (if t1428 = true then ((goods_rising_Sub.f k l0_1 16).bind fun t1431 => (some t1431)) else (some false)))))
  | x1388 :: xsi795, i795 => (if (i795 : Int) ≤ (l0_1.length : Int) then ((slices_ContainsFunc_api_Sub_api_Sub.f k ((l0_1.take (i795 : Int).toNat).drop 0) x1388.f0 x1388.f1 x1388.f2 x1388.f3 x1388.f4).bind fun t1395 => (if t1395 = true then (some false) else ((goods_may.f k x1388.f0 x1388.f1 x1388.f2 x1388.f3 x1388.f4).bind fun t1408 => (if t1408 = true then ((slices_Contains_string_string.f k l0_0 x1388.f0).bind fun t1411 => (if t1411 = true then ((slices_Contains_string_string.f k l0_0 x1388.f1).bind fun t1414 => (if t1414 = true then (goods_Right.r1 k l0_0 l0_1 xsi795 (i795 + 1)) else (some false))) else (some false))) else (some false))))) else none)
set_option maxHeartbeats 1000000 in
theorem goods_Right.r1_eq (k : Nat) (l0_0 : List ByteArray) (l0_1 : List S93)  (hs : l0_1.length < 4611686018427387904) : ∀ (m i795 : Nat), l0_1.length < m + i795 → i795 ≤ l0_1.length → goods_Right.l1 k l0_0 l0_1 m (i795 : Int) = goods_Right.r1 k l0_0 l0_1 (l0_1.drop i795) i795 := by
  intro m
  induction m with
  | zero => intro i795 h hi; omega
  | succ m ih =>
    intro i795 h hi
    by_cases hc : i795 < l0_1.length
    · have hw : wrap64 ((i795 : Int) + 1) = ((i795 + 1 : Nat) : Int) := by unfold wrap64; omega
      have hg : l0_1[(i795 : Int).toNat]? = some l0_1[i795] := by rw [Int.toNat_natCast]; exact List.getElem?_eq_getElem hc
      have ih2 := ih (i795 + 1) (by omega) (by omega)
      rw [List.drop_eq_getElem_cons hc, goods_Right.l1, goods_Right.r1, if_pos (by omega), if_pos (by omega), hg, Option.bind_some]
      simp only [hw, ih2]
    · rw [List.drop_of_length_le (by omega), goods_Right.l1, goods_Right.r1, if_neg (by omega)]
def slices_IndexFunc_api_Wait_api_Wait.r1 (k : Nat) (l0 : List S23) : List S23 → Nat → Option (Int)
  | [], i1651 => (some (-1))
  | x1680 :: xsi1651, i1651 => ((queue_all_1.f x1680.f0 x1680.f1 x1680.f2).bind fun t1683 => (if t1683 = true then (some (i1651 : Int)) else (slices_IndexFunc_api_Wait_api_Wait.r1 k l0 xsi1651 (i1651 + 1))))
set_option maxHeartbeats 1000000 in
theorem slices_IndexFunc_api_Wait_api_Wait.r1_eq (k : Nat) (l0 : List S23)  (hs : l0.length < 4611686018427387904) : ∀ (m i1651 : Nat), l0.length < m + i1651 → i1651 ≤ l0.length → slices_IndexFunc_api_Wait_api_Wait.l1 k l0 m (i1651 : Int) = slices_IndexFunc_api_Wait_api_Wait.r1 k l0 (l0.drop i1651) i1651 := by
  intro m
  induction m with
  | zero => intro i1651 h hi; omega
  | succ m ih =>
    intro i1651 h hi
    by_cases hc : i1651 < l0.length
    · have hw : wrap64 ((i1651 : Int) + 1) = ((i1651 + 1 : Nat) : Int) := by unfold wrap64; omega
      have hg : l0[(i1651 : Int).toNat]? = some l0[i1651] := by rw [Int.toNat_natCast]; exact List.getElem?_eq_getElem hc
      have ih2 := ih (i1651 + 1) (by omega) (by omega)
      rw [List.drop_eq_getElem_cons hc, slices_IndexFunc_api_Wait_api_Wait.l1, slices_IndexFunc_api_Wait_api_Wait.r1, if_pos (by omega), if_pos (by omega), hg, Option.bind_some]
      simp only [hw, ih2]
    · rw [List.drop_of_length_le (by omega), slices_IndexFunc_api_Wait_api_Wait.l1, slices_IndexFunc_api_Wait_api_Wait.r1, if_neg (by omega)]
def queue_Right.r1 (k : Nat) (l0 : List S23) : List S23 → Nat → Option (Bool)
  | [], i1528 => ((queue_all.f k l0).bind fun t1715 => (some t1715))
  | x1709 :: xsi1528, i1528 => (if 0 ≤ IntKind.i64.wrap ((wrap64 ((i1528 : Int) - 1)).tdiv 2) then ((l0[(IntKind.i64.wrap ((wrap64 ((i1528 : Int) - 1)).tdiv 2)).toNat]?).bind fun x1711 => ((queue_Less.f k x1709.f0 x1709.f1 x1709.f2 x1711.f0 x1711.f1 x1711.f2).bind fun t1712 => (if t1712 = true then (some false) else (queue_Right.r1 k l0 xsi1528 (i1528 + 1))))) else none)
set_option maxHeartbeats 1000000 in
theorem queue_Right.r1_eq (k : Nat) (l0 : List S23)  (hs : l0.length < 4611686018427387904) : ∀ (m i1528 : Nat), l0.length < m + i1528 → i1528 ≤ l0.length → queue_Right.l1 k l0 m (i1528 : Int) = queue_Right.r1 k l0 (l0.drop i1528) i1528 := by
  intro m
  induction m with
  | zero => intro i1528 h hi; omega
  | succ m ih =>
    intro i1528 h hi
    by_cases hc : i1528 < l0.length
    · have hw : wrap64 ((i1528 : Int) + 1) = ((i1528 + 1 : Nat) : Int) := by unfold wrap64; omega
      have hg : l0[(i1528 : Int).toNat]? = some l0[i1528] := by rw [Int.toNat_natCast]; exact List.getElem?_eq_getElem hc
      have ih2 := ih (i1528 + 1) (by omega) (by omega)
      rw [List.drop_eq_getElem_cons hc, queue_Right.l1, queue_Right.r1, if_pos (by omega), if_pos (by omega), hg, Option.bind_some]
      simp only [hw, ih2]
    · rw [List.drop_of_length_le (by omega), queue_Right.l1, queue_Right.r1, if_neg (by omega)]
def slices_IndexFunc_api_Line_api_Line.r1 (k : Nat) (a1_90_0 : ByteArray) (a1_90_1 : Int) (a1_90_2 : Int) (a1_90_3 : Int) (l0 : List S25) : List S25 → Nat → Option (Int)
  | [], i1810 => (some (-1))
  | x1839 :: xsi1810, i1810 => ((waits_like_is.f a1_90_0 a1_90_1 a1_90_2 a1_90_3 x1839.f0 x1839.f1 x1839.f2 x1839.f3).bind fun t1842 => (if t1842 = true then (some (i1810 : Int)) else (slices_IndexFunc_api_Line_api_Line.r1 k a1_90_0 a1_90_1 a1_90_2 a1_90_3 l0 xsi1810 (i1810 + 1))))
set_option maxHeartbeats 1000000 in
theorem slices_IndexFunc_api_Line_api_Line.r1_eq (k : Nat) (a1_90_0 : ByteArray) (a1_90_1 : Int) (a1_90_2 : Int) (a1_90_3 : Int) (l0 : List S25)  (hs : l0.length < 4611686018427387904) : ∀ (m i1810 : Nat), l0.length < m + i1810 → i1810 ≤ l0.length → slices_IndexFunc_api_Line_api_Line.l1 k a1_90_0 a1_90_1 a1_90_2 a1_90_3 l0 m (i1810 : Int) = slices_IndexFunc_api_Line_api_Line.r1 k a1_90_0 a1_90_1 a1_90_2 a1_90_3 l0 (l0.drop i1810) i1810 := by
  intro m
  induction m with
  | zero => intro i1810 h hi; omega
  | succ m ih =>
    intro i1810 h hi
    by_cases hc : i1810 < l0.length
    · have hw : wrap64 ((i1810 : Int) + 1) = ((i1810 + 1 : Nat) : Int) := by unfold wrap64; omega
      have hg : l0[(i1810 : Int).toNat]? = some l0[i1810] := by rw [Int.toNat_natCast]; exact List.getElem?_eq_getElem hc
      have ih2 := ih (i1810 + 1) (by omega) (by omega)
      rw [List.drop_eq_getElem_cons hc, slices_IndexFunc_api_Line_api_Line.l1, slices_IndexFunc_api_Line_api_Line.r1, if_pos (by omega), if_pos (by omega), hg, Option.bind_some]
      simp only [hw, ih2]
    · rw [List.drop_of_length_le (by omega), slices_IndexFunc_api_Line_api_Line.l1, slices_IndexFunc_api_Line_api_Line.r1, if_neg (by omega)]
def waits_all.r1 (k : Nat) (l0 : List S25) : List S25 → Nat → Option (Bool)
  | [], i1956 => (some (decide ((l0.length : Int) ≤ 32)))
  | x2007 :: xsi1956, i1956 => ((waits_may.f k x2007.f0 x2007.f1 x2007.f2 x2007.f3).bind fun t2011 => (if t2011 = true then (if (i1956 : Int) ≤ (l0.length : Int) then ((slices_ContainsFunc_api_Line_api_Line.f k ((l0.take (i1956 : Int).toNat).drop 0) x2007.f0 x2007.f1 x2007.f2 x2007.f3).bind fun t2017 => (if t2017 = true then (some false) else (waits_all.r1 k l0 xsi1956 (i1956 + 1)))) else none) else (some false)))
set_option maxHeartbeats 1000000 in
theorem waits_all.r1_eq (k : Nat) (l0 : List S25)  (hs : l0.length < 4611686018427387904) : ∀ (m i1956 : Nat), l0.length < m + i1956 → i1956 ≤ l0.length → waits_all.l1 k l0 m (i1956 : Int) = waits_all.r1 k l0 (l0.drop i1956) i1956 := by
  intro m
  induction m with
  | zero => intro i1956 h hi; omega
  | succ m ih =>
    intro i1956 h hi
    by_cases hc : i1956 < l0.length
    · have hw : wrap64 ((i1956 : Int) + 1) = ((i1956 + 1 : Nat) : Int) := by unfold wrap64; omega
      have hg : l0[(i1956 : Int).toNat]? = some l0[i1956] := by rw [Int.toNat_natCast]; exact List.getElem?_eq_getElem hc
      have ih2 := ih (i1956 + 1) (by omega) (by omega)
      rw [List.drop_eq_getElem_cons hc, waits_all.l1, waits_all.r1, if_pos (by omega), if_pos (by omega), hg, Option.bind_some]
      simp only [hw, ih2]
    · rw [List.drop_of_length_le (by omega), waits_all.l1, waits_all.r1, if_neg (by omega)]
-- slices_IsSortedFunc_api_Line_api_Line.l1: no index
def slices_IndexFunc_api_Line_api_Line_s42.r1 (k : Nat) (a1_0_0 : Int) (l0 : List S25) : List S25 → Nat → Option (Int)
  | [], i2280 => (some (-1))
  | x2309 :: xsi2280, i2280 => ((waits_at_1.f x2309.f0 x2309.f1 x2309.f2 x2309.f3 a1_0_0).bind fun t2312 => (if t2312 = true then (some (i2280 : Int)) else (slices_IndexFunc_api_Line_api_Line_s42.r1 k a1_0_0 l0 xsi2280 (i2280 + 1))))
set_option maxHeartbeats 1000000 in
theorem slices_IndexFunc_api_Line_api_Line_s42.r1_eq (k : Nat) (a1_0_0 : Int) (l0 : List S25)  (hs : l0.length < 4611686018427387904) : ∀ (m i2280 : Nat), l0.length < m + i2280 → i2280 ≤ l0.length → slices_IndexFunc_api_Line_api_Line_s42.l1 k a1_0_0 l0 m (i2280 : Int) = slices_IndexFunc_api_Line_api_Line_s42.r1 k a1_0_0 l0 (l0.drop i2280) i2280 := by
  intro m
  induction m with
  | zero => intro i2280 h hi; omega
  | succ m ih =>
    intro i2280 h hi
    by_cases hc : i2280 < l0.length
    · have hw : wrap64 ((i2280 : Int) + 1) = ((i2280 + 1 : Nat) : Int) := by unfold wrap64; omega
      have hg : l0[(i2280 : Int).toNat]? = some l0[i2280] := by rw [Int.toNat_natCast]; exact List.getElem?_eq_getElem hc
      have ih2 := ih (i2280 + 1) (by omega) (by omega)
      rw [List.drop_eq_getElem_cons hc, slices_IndexFunc_api_Line_api_Line_s42.l1, slices_IndexFunc_api_Line_api_Line_s42.r1, if_pos (by omega), if_pos (by omega), hg, Option.bind_some]
      simp only [hw, ih2]
    · rw [List.drop_of_length_le (by omega), slices_IndexFunc_api_Line_api_Line_s42.l1, slices_IndexFunc_api_Line_api_Line_s42.r1, if_neg (by omega)]
def waits_Of.r1 (k : Nat) (a1 : ByteArray) (l0 : List S25) : List S25 → (List S23) → Option (List S23 × Int)
  | [], l2562 => (some (l2562, 0))
  | x2608 :: xsi2564, l2562 => (if (x2608.f0 == a1) = true then (if (l2562.length + ([(⟨x2608.f1, x2608.f2, x2608.f3⟩ : S23)] : List S23).length) * 24 ≤ 140737488355328 then (waits_Of.r1 k a1 l0 xsi2564 (l2562 ++ ([(⟨x2608.f1, x2608.f2, x2608.f3⟩ : S23)] : List S23))) else none) else (waits_Of.r1 k a1 l0 xsi2564 l2562))
set_option maxHeartbeats 1000000 in
theorem waits_Of.r1_eq (k : Nat) (a1 : ByteArray) (l0 : List S25)  (hs : l0.length < 4611686018427387904) : ∀ (m i2564 : Nat) (l2562 : List S23), l0.length < m + i2564 → i2564 ≤ l0.length → waits_Of.l1 k a1 l0 m l2562 (i2564 : Int) = waits_Of.r1 k a1 l0 (l0.drop i2564) l2562 := by
  intro m
  induction m with
  | zero => intro i2564 l2562 h hi; omega
  | succ m ih =>
    intro i2564 l2562 h hi
    by_cases hc : i2564 < l0.length
    · have hw : wrap64 ((i2564 : Int) + 1) = ((i2564 + 1 : Nat) : Int) := by unfold wrap64; omega
      have hg : l0[(i2564 : Int).toNat]? = some l0[i2564] := by rw [Int.toNat_natCast]; exact List.getElem?_eq_getElem hc
      have ih2 := fun l2562 => ih (i2564 + 1) l2562 (by omega) (by omega)
      rw [List.drop_eq_getElem_cons hc, waits_Of.l1, waits_Of.r1, if_pos (by omega), if_pos (by omega), hg, Option.bind_some]
      simp only [hw, ih2]
    · rw [List.drop_of_length_le (by omega), waits_Of.l1, waits_Of.r1, if_neg (by omega)]
-- tarryref07_Name.l1: another shape
def tarryref09_Twice.r1 (k : Nat) (a1_2 : Int) (a1_3 : Int) (l0 : List S25) : List S25 → Option (Bool)
  | [] => (some false)
  | x3211 :: xsi3167 => (if x3211.f3 = a1_3 then (some true) else (if x3211.f2 = a1_2 then (some true) else (tarryref09_Twice.r1 k a1_2 a1_3 l0 xsi3167)))
set_option maxHeartbeats 1000000 in
theorem tarryref09_Twice.r1_eq (k : Nat) (a1_2 : Int) (a1_3 : Int) (l0 : List S25)  (hs : l0.length < 4611686018427387904) : ∀ (m i3167 : Nat), l0.length < m + i3167 → i3167 ≤ l0.length → tarryref09_Twice.l1 k a1_2 a1_3 l0 m (i3167 : Int) = tarryref09_Twice.r1 k a1_2 a1_3 l0 (l0.drop i3167) := by
  intro m
  induction m with
  | zero => intro i3167 h hi; omega
  | succ m ih =>
    intro i3167 h hi
    by_cases hc : i3167 < l0.length
    · have hw : wrap64 ((i3167 : Int) + 1) = ((i3167 + 1 : Nat) : Int) := by unfold wrap64; omega
      have hg : l0[(i3167 : Int).toNat]? = some l0[i3167] := by rw [Int.toNat_natCast]; exact List.getElem?_eq_getElem hc
      have ih2 := ih (i3167 + 1) (by omega) (by omega)
      rw [List.drop_eq_getElem_cons hc, tarryref09_Twice.l1, tarryref09_Twice.r1, if_pos (by omega), if_pos (by omega), hg, Option.bind_some]
      simp only [hw, ih2]
    · rw [List.drop_of_length_le (by omega), tarryref09_Twice.l1, tarryref09_Twice.r1, if_neg (by omega)]
def tarryref09_All.r1 (k : Nat) (l0 : List S25) : List S25 → Nat → Option (Bool)
  | [], i3330 => (some (decide ((l0.length : Int) ≤ 32)))
  | x3381 :: xsi3330, i3330 => ((tarryref09_May.f k x3381.f0 x3381.f1 x3381.f2 x3381.f3).bind fun t3385 => (if t3385 = true then (if (i3330 : Int) ≤ (l0.length : Int) then ((tarryref09_Twice.f k ((l0.take (i3330 : Int).toNat).drop 0) x3381.f0 x3381.f1 x3381.f2 x3381.f3).bind fun t3391 => (if t3391 = true then (some false) else (tarryref09_All.r1 k l0 xsi3330 (i3330 + 1)))) else none) else (some false)))
set_option maxHeartbeats 1000000 in
theorem tarryref09_All.r1_eq (k : Nat) (l0 : List S25)  (hs : l0.length < 4611686018427387904) : ∀ (m i3330 : Nat), l0.length < m + i3330 → i3330 ≤ l0.length → tarryref09_All.l1 k l0 m (i3330 : Int) = tarryref09_All.r1 k l0 (l0.drop i3330) i3330 := by
  intro m
  induction m with
  | zero => intro i3330 h hi; omega
  | succ m ih =>
    intro i3330 h hi
    by_cases hc : i3330 < l0.length
    · have hw : wrap64 ((i3330 : Int) + 1) = ((i3330 + 1 : Nat) : Int) := by unfold wrap64; omega
      have hg : l0[(i3330 : Int).toNat]? = some l0[i3330] := by rw [Int.toNat_natCast]; exact List.getElem?_eq_getElem hc
      have ih2 := ih (i3330 + 1) (by omega) (by omega)
      rw [List.drop_eq_getElem_cons hc, tarryref09_All.l1, tarryref09_All.r1, if_pos (by omega), if_pos (by omega), hg, Option.bind_some]
      simp only [hw, ih2]
    · rw [List.drop_of_length_le (by omega), tarryref09_All.l1, tarryref09_All.r1, if_neg (by omega)]
-- tarryref07_Less.l1: another shape
def tarryref09_Make.r9 (k : Nat) (rec_l5 : (List S25) → Option (List S25)) (i4897 : Int) (l4896 : List S25) (x5390 : S25) : List S25 → Nat → Option (List S25)
  | [], i5447 => (if 0 ≤ (i5447 : Int) then (if (i5447 : Int) ≤ (l4896.length : Int) then (if (([] : List S25).length + ((l4896.take (i5447 : Int).toNat).drop 0).length) * 40 ≤ 140737488355328 then (if ((([] : List S25) ++ ((l4896.take (i5447 : Int).toNat).drop 0)).length + ([x5390] : List S25).length) * 40 ≤ 140737488355328 then (if (((([] : List S25) ++ ((l4896.take (i5447 : Int).toNat).drop 0)) ++ ([x5390] : List S25)).length + ((l4896.take l4896.length).drop (i5447 : Int).toNat).length) * 40 ≤ 140737488355328 then (rec_l5 (((([] : List S25) ++ ((l4896.take (i5447 : Int).toNat).drop 0)) ++ ([x5390] : List S25)) ++ ((l4896.take l4896.length).drop (i5447 : Int).toNat))) else none) else none) else none) else none) else none)
  | x5509 :: xsi5447, i5447 => ((tarryref09_Less.f k x5509.f0 x5509.f1 x5509.f2 x5509.f3 x5390.f0 x5390.f1 x5390.f2 x5390.f3).bind fun t5510 => (if t5510 = true then (tarryref09_Make.r9 k rec_l5 i4897 l4896 x5390 xsi5447 (i5447 + 1)) else (if (i5447 : Int) ≤ (l4896.length : Int) then (if (([] : List S25).length + ((l4896.take (i5447 : Int).toNat).drop 0).length) * 40 ≤ 140737488355328 then (if ((([] : List S25) ++ ((l4896.take (i5447 : Int).toNat).drop 0)).length + ([x5390] : List S25).length) * 40 ≤ 140737488355328 then (if (((([] : List S25) ++ ((l4896.take (i5447 : Int).toNat).drop 0)) ++ ([x5390] : List S25)).length + ((l4896.take l4896.length).drop (i5447 : Int).toNat).length) * 40 ≤ 140737488355328 then (rec_l5 (((([] : List S25) ++ ((l4896.take (i5447 : Int).toNat).drop 0)) ++ ([x5390] : List S25)) ++ ((l4896.take l4896.length).drop (i5447 : Int).toNat))) else none) else none) else none) else none)))
set_option maxHeartbeats 1000000 in
theorem tarryref09_Make.r9_eq (k : Nat) (rec_l5 : (List S25) → Int → Option (List S25)) (i4897 : Int) (l4896 : List S25) (x5390 : S25)  (hs : l4896.length < 4611686018427387904) : ∀ (m i5447 : Nat), l4896.length < m + i5447 → i5447 ≤ l4896.length → tarryref09_Make.l9 k rec_l5 i4897 l4896 x5390 m (i5447 : Int) = tarryref09_Make.r9 k (fun z0 => rec_l5 z0 (wrap64 (i4897 + 1))) i4897 l4896 x5390 (l4896.drop i5447) i5447 := by
  intro m
  induction m with
  | zero => intro i5447 h hi; omega
  | succ m ih =>
    intro i5447 h hi
    by_cases hc : i5447 < l4896.length
    · have hw : wrap64 ((i5447 : Int) + 1) = ((i5447 + 1 : Nat) : Int) := by unfold wrap64; omega
      have hg : l4896[(i5447 : Int).toNat]? = some l4896[i5447] := by rw [Int.toNat_natCast]; exact List.getElem?_eq_getElem hc
      have ih2 := ih (i5447 + 1) (by omega) (by omega)
      rw [List.drop_eq_getElem_cons hc, tarryref09_Make.l9, tarryref09_Make.r9, if_pos (by omega), if_pos (by omega), hg, Option.bind_some]
      simp only [hw, ih2]
    · rw [List.drop_of_length_le (by omega), tarryref09_Make.l9, tarryref09_Make.r9, if_neg (by omega)]
      try simp only [Int.natCast_zero]
-- tarryref09_Make.l5: an inner loop over l4896
def tarryref09_Same.r1 (k : Nat) (l0 : List S25) (l1 : List S25) : List S25 → Nat → Option (Bool)
  | [], i5613 => (some true)
  | x5636 :: xsi5613, i5613 => ((l1[(i5613 : Int).toNat]?).bind fun x5637 => (if (((x5636.f0 == x5637.f0) && ((x5636.f1 == x5637.f1) && ((x5636.f2 == x5637.f2) && (x5636.f3 == x5637.f3))))) = true then (tarryref09_Same.r1 k l0 l1 xsi5613 (i5613 + 1)) else (some false)))
set_option maxHeartbeats 1000000 in
theorem tarryref09_Same.r1_eq (k : Nat) (l0 : List S25) (l1 : List S25)  (hs : l0.length < 4611686018427387904) : ∀ (m i5613 : Nat), l0.length < m + i5613 → i5613 ≤ l0.length → tarryref09_Same.l1 k l0 l1 m (i5613 : Int) = tarryref09_Same.r1 k l0 l1 (l0.drop i5613) i5613 := by
  intro m
  induction m with
  | zero => intro i5613 h hi; omega
  | succ m ih =>
    intro i5613 h hi
    by_cases hc : i5613 < l0.length
    · have hw : wrap64 ((i5613 : Int) + 1) = ((i5613 + 1 : Nat) : Int) := by unfold wrap64; omega
      have hg : l0[(i5613 : Int).toNat]? = some l0[i5613] := by rw [Int.toNat_natCast]; exact List.getElem?_eq_getElem hc
      have ih2 := ih (i5613 + 1) (by omega) (by omega)
      rw [List.drop_eq_getElem_cons hc, tarryref09_Same.l1, tarryref09_Same.r1, if_pos (by omega), if_pos (by omega), hg, Option.bind_some]
      simp only [hw, ih2]
    · rw [List.drop_of_length_le (by omega), tarryref09_Same.l1, tarryref09_Same.r1, if_neg (by omega)]
def tarryref09_Of.r1 (k : Nat) (a1 : ByteArray) (l0 : List S25) : List S25 → (List S23) → Option (List S23)
  | [], l5800 => (some l5800)
  | x5845 :: xsi5801, l5800 => (if (x5845.f0 == a1) = true then (if (l5800.length + ([(⟨x5845.f1, x5845.f2, x5845.f3⟩ : S23)] : List S23).length) * 24 ≤ 140737488355328 then (tarryref09_Of.r1 k a1 l0 xsi5801 (l5800 ++ ([(⟨x5845.f1, x5845.f2, x5845.f3⟩ : S23)] : List S23))) else none) else (tarryref09_Of.r1 k a1 l0 xsi5801 l5800))
set_option maxHeartbeats 1000000 in
theorem tarryref09_Of.r1_eq (k : Nat) (a1 : ByteArray) (l0 : List S25)  (hs : l0.length < 4611686018427387904) : ∀ (m i5801 : Nat) (l5800 : List S23), l0.length < m + i5801 → i5801 ≤ l0.length → tarryref09_Of.l1 k a1 l0 m l5800 (i5801 : Int) = tarryref09_Of.r1 k a1 l0 (l0.drop i5801) l5800 := by
  intro m
  induction m with
  | zero => intro i5801 l5800 h hi; omega
  | succ m ih =>
    intro i5801 l5800 h hi
    by_cases hc : i5801 < l0.length
    · have hw : wrap64 ((i5801 : Int) + 1) = ((i5801 + 1 : Nat) : Int) := by unfold wrap64; omega
      have hg : l0[(i5801 : Int).toNat]? = some l0[i5801] := by rw [Int.toNat_natCast]; exact List.getElem?_eq_getElem hc
      have ih2 := fun l5800 => ih (i5801 + 1) l5800 (by omega) (by omega)
      rw [List.drop_eq_getElem_cons hc, tarryref09_Of.l1, tarryref09_Of.r1, if_pos (by omega), if_pos (by omega), hg, Option.bind_some]
      simp only [hw, ih2]
    · rw [List.drop_of_length_le (by omega), tarryref09_Of.l1, tarryref09_Of.r1, if_neg (by omega)]
def tarryref06_Same.r1 (k : Nat) (l0 : List S23) (l1 : List S23) : List S23 → Nat → Option (Bool)
  | [], i5919 => (some true)
  | x5942 :: xsi5919, i5919 => ((l1[(i5919 : Int).toNat]?).bind fun x5943 => (if (((x5942.f0 == x5943.f0) && ((x5942.f1 == x5943.f1) && (x5942.f2 == x5943.f2)))) = true then (tarryref06_Same.r1 k l0 l1 xsi5919 (i5919 + 1)) else (some false)))
set_option maxHeartbeats 1000000 in
theorem tarryref06_Same.r1_eq (k : Nat) (l0 : List S23) (l1 : List S23)  (hs : l0.length < 4611686018427387904) : ∀ (m i5919 : Nat), l0.length < m + i5919 → i5919 ≤ l0.length → tarryref06_Same.l1 k l0 l1 m (i5919 : Int) = tarryref06_Same.r1 k l0 l1 (l0.drop i5919) i5919 := by
  intro m
  induction m with
  | zero => intro i5919 h hi; omega
  | succ m ih =>
    intro i5919 h hi
    by_cases hc : i5919 < l0.length
    · have hw : wrap64 ((i5919 : Int) + 1) = ((i5919 + 1 : Nat) : Int) := by unfold wrap64; omega
      have hg : l0[(i5919 : Int).toNat]? = some l0[i5919] := by rw [Int.toNat_natCast]; exact List.getElem?_eq_getElem hc
      have ih2 := ih (i5919 + 1) (by omega) (by omega)
      rw [List.drop_eq_getElem_cons hc, tarryref06_Same.l1, tarryref06_Same.r1, if_pos (by omega), if_pos (by omega), hg, Option.bind_some]
      simp only [hw, ih2]
    · rw [List.drop_of_length_le (by omega), tarryref06_Same.l1, tarryref06_Same.r1, if_neg (by omega)]
def tarryref09_At.r1 (k : Nat) (a1 : Int) (l0 : List S25) : List S25 → Nat → Option (Int)
  | [], i6042 => (some (-1))
  | x6071 :: xsi6042, i6042 => (if x6071.f3 = a1 then (some (i6042 : Int)) else (tarryref09_At.r1 k a1 l0 xsi6042 (i6042 + 1)))
set_option maxHeartbeats 1000000 in
theorem tarryref09_At.r1_eq (k : Nat) (a1 : Int) (l0 : List S25)  (hs : l0.length < 4611686018427387904) : ∀ (m i6042 : Nat), l0.length < m + i6042 → i6042 ≤ l0.length → tarryref09_At.l1 k a1 l0 m (i6042 : Int) = tarryref09_At.r1 k a1 l0 (l0.drop i6042) i6042 := by
  intro m
  induction m with
  | zero => intro i6042 h hi; omega
  | succ m ih =>
    intro i6042 h hi
    by_cases hc : i6042 < l0.length
    · have hw : wrap64 ((i6042 : Int) + 1) = ((i6042 + 1 : Nat) : Int) := by unfold wrap64; omega
      have hg : l0[(i6042 : Int).toNat]? = some l0[i6042] := by rw [Int.toNat_natCast]; exact List.getElem?_eq_getElem hc
      have ih2 := ih (i6042 + 1) (by omega) (by omega)
      rw [List.drop_eq_getElem_cons hc, tarryref09_At.l1, tarryref09_At.r1, if_pos (by omega), if_pos (by omega), hg, Option.bind_some]
      simp only [hw, ih2]
    · rw [List.drop_of_length_le (by omega), tarryref09_At.l1, tarryref09_At.r1, if_neg (by omega)]
def tarryref09_Without.r1 (k : Nat) (a1 : Int) (l0 : List S25) : List S25 → (List S25) → Option (List S25)
  | [], l6229 => (some l6229)
  | x6274 :: xsi6230, l6229 => (if x6274.f3 = a1 then (tarryref09_Without.r1 k a1 l0 xsi6230 l6229) else (if (l6229.length + ([x6274] : List S25).length) * 40 ≤ 140737488355328 then (tarryref09_Without.r1 k a1 l0 xsi6230 (l6229 ++ ([x6274] : List S25))) else none))
set_option maxHeartbeats 1000000 in
theorem tarryref09_Without.r1_eq (k : Nat) (a1 : Int) (l0 : List S25)  (hs : l0.length < 4611686018427387904) : ∀ (m i6230 : Nat) (l6229 : List S25), l0.length < m + i6230 → i6230 ≤ l0.length → tarryref09_Without.l1 k a1 l0 m l6229 (i6230 : Int) = tarryref09_Without.r1 k a1 l0 (l0.drop i6230) l6229 := by
  intro m
  induction m with
  | zero => intro i6230 l6229 h hi; omega
  | succ m ih =>
    intro i6230 l6229 h hi
    by_cases hc : i6230 < l0.length
    · have hw : wrap64 ((i6230 : Int) + 1) = ((i6230 + 1 : Nat) : Int) := by unfold wrap64; omega
      have hg : l0[(i6230 : Int).toNat]? = some l0[i6230] := by rw [Int.toNat_natCast]; exact List.getElem?_eq_getElem hc
      have ih2 := fun l6229 => ih (i6230 + 1) l6229 (by omega) (by omega)
      rw [List.drop_eq_getElem_cons hc, tarryref09_Without.l1, tarryref09_Without.r1, if_pos (by omega), if_pos (by omega), hg, Option.bind_some]
      simp only [hw, ih2]
    · rw [List.drop_of_length_le (by omega), tarryref09_Without.l1, tarryref09_Without.r1, if_neg (by omega)]

end Go.Proofs.Ytdofmkbffffbpaa.PWaitsGo
