/- Written by a program of this repo: what the program's functions do, each as a Lean function, shown of the loaded code; or a statement's row over that; no condition of its own. -/
import Derived.Test.YtdofmkbffffbpaaPWaitsStandx0
namespace Go.Proofs.Ytdofmkbffffbpaa.PWaitsStand
open Go Go.RowKit Go.Proofs.YtdofmkbffffbpaaV
set_option linter.unusedVariables false
set_option linter.unusedSimpArgs false

def tarrylaw09_few.r1 (k : Nat) (l0 : List S25) : List S25 → (List S25) → Option (List S25)
  | [], l95 => (some l95)
  | x120 :: xsi97, l95 => ((tarrylaw09_cut.f x120.f0 x120.f1 x120.f2 x120.f3).bind fun ⟨t124, t125, t126, t127⟩ => (if (l95.length + ([(⟨t124, t125, t126, t127⟩ : S25)] : List S25).length) * 40 ≤ 140737488355328 then (tarrylaw09_few.r1 k l0 xsi97 (l95 ++ ([(⟨t124, t125, t126, t127⟩ : S25)] : List S25))) else none))
set_option maxHeartbeats 1000000 in
theorem tarrylaw09_few.r1_eq (k : Nat) (l0 : List S25)  (hs : ((l0.take ((mn (l0.length : Int) 34).toNat)).drop 0).length < 4611686018427387904) : ∀ (m i97 : Nat) (l95 : List S25), ((l0.take ((mn (l0.length : Int) 34).toNat)).drop 0).length < m + i97 → i97 ≤ ((l0.take ((mn (l0.length : Int) 34).toNat)).drop 0).length → tarrylaw09_few.l1 k l0 m l95 (i97 : Int) = tarrylaw09_few.r1 k l0 (((l0.take ((mn (l0.length : Int) 34).toNat)).drop 0).drop i97) l95 := by
  intro m
  induction m with
  | zero => intro i97 l95 h hi; omega
  | succ m ih =>
    intro i97 l95 h hi
    by_cases hc : i97 < ((l0.take ((mn (l0.length : Int) 34).toNat)).drop 0).length
    · have hw : wrap64 ((i97 : Int) + 1) = ((i97 + 1 : Nat) : Int) := by unfold wrap64; omega
      have hg : ((l0.take ((mn (l0.length : Int) 34).toNat)).drop 0)[(i97 : Int).toNat]? = some ((l0.take ((mn (l0.length : Int) 34).toNat)).drop 0)[i97] := by rw [Int.toNat_natCast]; exact List.getElem?_eq_getElem hc
      have ih2 := fun l95 => ih (i97 + 1) l95 (by omega) (by omega)
      rw [List.drop_eq_getElem_cons hc, tarrylaw09_few.l1, tarrylaw09_few.r1, if_pos (by omega), if_pos (by omega), hg, Option.bind_some]
      simp only [hw, ih2]
    · rw [List.drop_of_length_le (by omega), tarrylaw09_few.l1, tarrylaw09_few.r1, if_neg (by omega)]
def slices_IndexFunc_api_Sub_api_Sub.r1 (k : Nat) (a1_0_0 : ByteArray) (a1_0_1 : ByteArray) (a1_0_2 : Int) (a1_0_3 : Int) (a1_0_4 : Int) (l0 : List S93) : List S93 → Nat → Option (Int)
  | [], i242 => (some (-1))
  | x271 :: xsi242, i242 => ((goods_Right_1.f x271.f0 x271.f1 x271.f2 x271.f3 x271.f4 a1_0_0 a1_0_1 a1_0_2 a1_0_3 a1_0_4).bind fun t274 => (if t274 = true then (some (i242 : Int)) else (slices_IndexFunc_api_Sub_api_Sub.r1 k a1_0_0 a1_0_1 a1_0_2 a1_0_3 a1_0_4 l0 xsi242 (i242 + 1))))
set_option maxHeartbeats 1000000 in
theorem slices_IndexFunc_api_Sub_api_Sub.r1_eq (k : Nat) (a1_0_0 : ByteArray) (a1_0_1 : ByteArray) (a1_0_2 : Int) (a1_0_3 : Int) (a1_0_4 : Int) (l0 : List S93)  (hs : l0.length < 4611686018427387904) : ∀ (m i242 : Nat), l0.length < m + i242 → i242 ≤ l0.length → slices_IndexFunc_api_Sub_api_Sub.l1 k a1_0_0 a1_0_1 a1_0_2 a1_0_3 a1_0_4 l0 m (i242 : Int) = slices_IndexFunc_api_Sub_api_Sub.r1 k a1_0_0 a1_0_1 a1_0_2 a1_0_3 a1_0_4 l0 (l0.drop i242) i242 := by
  intro m
  induction m with
  | zero => intro i242 h hi; omega
  | succ m ih =>
    intro i242 h hi
    by_cases hc : i242 < l0.length
    · have hw : wrap64 ((i242 : Int) + 1) = ((i242 + 1 : Nat) : Int) := by unfold wrap64; omega
      have hg : l0[(i242 : Int).toNat]? = some l0[i242] := by rw [Int.toNat_natCast]; exact List.getElem?_eq_getElem hc
      have ih2 := ih (i242 + 1) (by omega) (by omega)
      rw [List.drop_eq_getElem_cons hc, slices_IndexFunc_api_Sub_api_Sub.l1, slices_IndexFunc_api_Sub_api_Sub.r1, if_pos (by omega), if_pos (by omega), hg, Option.bind_some]
      simp only [hw, ih2]
    · rw [List.drop_of_length_le (by omega), slices_IndexFunc_api_Sub_api_Sub.l1, slices_IndexFunc_api_Sub_api_Sub.r1, if_neg (by omega)]
def slices_IndexFunc_byte_byte.r1 (k : Nat) (l0 : List Int) : List Int → Nat → Option (Int)
  | [], i378 => (some (-1))
  | x407 :: xsi378, i378 => ((goods_name_1.f x407).bind fun t410 => (if t410 = true then (some (i378 : Int)) else (slices_IndexFunc_byte_byte.r1 k l0 xsi378 (i378 + 1))))
set_option maxHeartbeats 1000000 in
theorem slices_IndexFunc_byte_byte.r1_eq (k : Nat) (l0 : List Int)  (hs : l0.length < 4611686018427387904) : ∀ (m i378 : Nat), l0.length < m + i378 → i378 ≤ l0.length → slices_IndexFunc_byte_byte.l1 k l0 m (i378 : Int) = slices_IndexFunc_byte_byte.r1 k l0 (l0.drop i378) i378 := by
  intro m
  induction m with
  | zero => intro i378 h hi; omega
  | succ m ih =>
    intro i378 h hi
    by_cases hc : i378 < l0.length
    · have hw : wrap64 ((i378 : Int) + 1) = ((i378 + 1 : Nat) : Int) := by unfold wrap64; omega
      have hg : l0[(i378 : Int).toNat]? = some l0[i378] := by rw [Int.toNat_natCast]; exact List.getElem?_eq_getElem hc
      have ih2 := ih (i378 + 1) (by omega) (by omega)
      rw [List.drop_eq_getElem_cons hc, slices_IndexFunc_byte_byte.l1, slices_IndexFunc_byte_byte.r1, if_pos (by omega), if_pos (by omega), hg, Option.bind_some]
      simp only [hw, ih2]
    · rw [List.drop_of_length_le (by omega), slices_IndexFunc_byte_byte.l1, slices_IndexFunc_byte_byte.r1, if_neg (by omega)]
def slices_Index_string_string.r1 (k : Nat) (a1 : ByteArray) (l0 : List ByteArray) : List ByteArray → Nat → Option (Int)
  | [], i529 => (some (-1))
  | x555 :: xsi529, i529 => (if (a1 == x555) = true then (some (i529 : Int)) else (slices_Index_string_string.r1 k a1 l0 xsi529 (i529 + 1)))
set_option maxHeartbeats 1000000 in
theorem slices_Index_string_string.r1_eq (k : Nat) (a1 : ByteArray) (l0 : List ByteArray)  (hs : l0.length < 4611686018427387904) : ∀ (m i529 : Nat), l0.length < m + i529 → i529 ≤ l0.length → slices_Index_string_string.l1 k a1 l0 m (i529 : Int) = slices_Index_string_string.r1 k a1 l0 (l0.drop i529) i529 := by
  intro m
  induction m with
  | zero => intro i529 h hi; omega
  | succ m ih =>
    intro i529 h hi
    by_cases hc : i529 < l0.length
    · have hw : wrap64 ((i529 : Int) + 1) = ((i529 + 1 : Nat) : Int) := by unfold wrap64; omega
      have hg : l0[(i529 : Int).toNat]? = some l0[i529] := by rw [Int.toNat_natCast]; exact List.getElem?_eq_getElem hc
      have ih2 := ih (i529 + 1) (by omega) (by omega)
      rw [List.drop_eq_getElem_cons hc, slices_Index_string_string.l1, slices_Index_string_string.r1, if_pos (by omega), if_pos (by omega), hg, Option.bind_some]
      simp only [hw, ih2]
    · rw [List.drop_of_length_le (by omega), slices_Index_string_string.l1, slices_Index_string_string.r1, if_neg (by omega)]
def slices_IndexFunc_string_string.r1 (k : Nat) (l0 : List ByteArray) : List ByteArray → Nat → Option (Int)
  | [], i935 => (some (-1))
  | x964 :: xsi935, i935 => ((goods_Right_2.f k x964).bind fun t967 => (if t967 = true then (some (i935 : Int)) else (slices_IndexFunc_string_string.r1 k l0 xsi935 (i935 + 1))))
set_option maxHeartbeats 1000000 in
theorem slices_IndexFunc_string_string.r1_eq (k : Nat) (l0 : List ByteArray)  (hs : l0.length < 4611686018427387904) : ∀ (m i935 : Nat), l0.length < m + i935 → i935 ≤ l0.length → slices_IndexFunc_string_string.l1 k l0 m (i935 : Int) = slices_IndexFunc_string_string.r1 k l0 (l0.drop i935) i935 := by
  intro m
  induction m with
  | zero => intro i935 h hi; omega
  | succ m ih =>
    intro i935 h hi
    by_cases hc : i935 < l0.length
    · have hw : wrap64 ((i935 : Int) + 1) = ((i935 + 1 : Nat) : Int) := by unfold wrap64; omega
      have hg : l0[(i935 : Int).toNat]? = some l0[i935] := by rw [Int.toNat_natCast]; exact List.getElem?_eq_getElem hc
      have ih2 := ih (i935 + 1) (by omega) (by omega)
      rw [List.drop_eq_getElem_cons hc, slices_IndexFunc_string_string.l1, slices_IndexFunc_string_string.r1, if_pos (by omega), if_pos (by omega), hg, Option.bind_some]
      simp only [hw, ih2]
    · rw [List.drop_of_length_le (by omega), slices_IndexFunc_string_string.l1, slices_IndexFunc_string_string.r1, if_neg (by omega)]
-- goods_rising_string.l1: another shape
def cmp_Or_int.r1 (k : Nat) (l0 : List Int) : List Int → Option (Int)
  | [] => (some 0)
  | x1230 :: xsi1204 => (if x1230 = 0 then (cmp_Or_int.r1 k l0 xsi1204) else (some x1230))
set_option maxHeartbeats 1000000 in
theorem cmp_Or_int.r1_eq (k : Nat) (l0 : List Int)  (hs : l0.length < 4611686018427387904) : ∀ (m i1204 : Nat), l0.length < m + i1204 → i1204 ≤ l0.length → cmp_Or_int.l1 k l0 m (i1204 : Int) = cmp_Or_int.r1 k l0 (l0.drop i1204) := by
  intro m
  induction m with
  | zero => intro i1204 h hi; omega
  | succ m ih =>
    intro i1204 h hi
    by_cases hc : i1204 < l0.length
    · have hw : wrap64 ((i1204 : Int) + 1) = ((i1204 + 1 : Nat) : Int) := by unfold wrap64; omega
      have hg : l0[(i1204 : Int).toNat]? = some l0[i1204] := by rw [Int.toNat_natCast]; exact List.getElem?_eq_getElem hc
      have ih2 := ih (i1204 + 1) (by omega) (by omega)
      rw [List.drop_eq_getElem_cons hc, cmp_Or_int.l1, cmp_Or_int.r1, if_pos (by omega), if_pos (by omega), hg, Option.bind_some]
      simp only [hw, ih2]
    · rw [List.drop_of_length_le (by omega), cmp_Or_int.l1, cmp_Or_int.r1, if_neg (by omega)]
-- goods_rising_Sub.l1: another shape
def goods_Right.r1 (k : Nat) (l0_0 : List ByteArray) (l0_1 : List S93) : List S93 → Nat → Option (Bool)
  | [], i796 => ((slices_ContainsFunc_string_string.f k l0_0).bind fun t1421 => (if t1421 = true then (some false) else ((goods_rising_string.f k l0_0 8).bind fun t1429 => (if t1429 = true then ((goods_rising_Sub.f k l0_1 16).bind fun t1432 => (some t1432)) else (some false)))))
  | x1389 :: xsi796, i796 => (if (i796 : Int) ≤ (l0_1.length : Int) then ((slices_ContainsFunc_api_Sub_api_Sub.f k ((l0_1.take (i796 : Int).toNat).drop 0) x1389.f0 x1389.f1 x1389.f2 x1389.f3 x1389.f4).bind fun t1396 => (if t1396 = true then (some false) else ((goods_may.f k x1389.f0 x1389.f1 x1389.f2 x1389.f3 x1389.f4).bind fun t1409 => (if t1409 = true then ((slices_Contains_string_string.f k l0_0 x1389.f0).bind fun t1412 => (if t1412 = true then ((slices_Contains_string_string.f k l0_0 x1389.f1).bind fun t1415 => (if t1415 = true then (goods_Right.r1 k l0_0 l0_1 xsi796 (i796 + 1)) else (some false))) else (some false))) else (some false))))) else none)
set_option maxHeartbeats 1000000 in
theorem goods_Right.r1_eq (k : Nat) (l0_0 : List ByteArray) (l0_1 : List S93)  (hs : l0_1.length < 4611686018427387904) : ∀ (m i796 : Nat), l0_1.length < m + i796 → i796 ≤ l0_1.length → goods_Right.l1 k l0_0 l0_1 m (i796 : Int) = goods_Right.r1 k l0_0 l0_1 (l0_1.drop i796) i796 := by
  intro m
  induction m with
  | zero => intro i796 h hi; omega
  | succ m ih =>
    intro i796 h hi
    by_cases hc : i796 < l0_1.length
    · have hw : wrap64 ((i796 : Int) + 1) = ((i796 + 1 : Nat) : Int) := by unfold wrap64; omega
      have hg : l0_1[(i796 : Int).toNat]? = some l0_1[i796] := by rw [Int.toNat_natCast]; exact List.getElem?_eq_getElem hc
      have ih2 := ih (i796 + 1) (by omega) (by omega)
      rw [List.drop_eq_getElem_cons hc, goods_Right.l1, goods_Right.r1, if_pos (by omega), if_pos (by omega), hg, Option.bind_some]
      simp only [hw, ih2]
    · rw [List.drop_of_length_le (by omega), goods_Right.l1, goods_Right.r1, if_neg (by omega)]
def slices_IndexFunc_api_Wait_api_Wait.r1 (k : Nat) (l0 : List S23) : List S23 → Nat → Option (Int)
  | [], i1652 => (some (-1))
  | x1681 :: xsi1652, i1652 => ((queue_all_1.f x1681.f0 x1681.f1 x1681.f2).bind fun t1684 => (if t1684 = true then (some (i1652 : Int)) else (slices_IndexFunc_api_Wait_api_Wait.r1 k l0 xsi1652 (i1652 + 1))))
set_option maxHeartbeats 1000000 in
theorem slices_IndexFunc_api_Wait_api_Wait.r1_eq (k : Nat) (l0 : List S23)  (hs : l0.length < 4611686018427387904) : ∀ (m i1652 : Nat), l0.length < m + i1652 → i1652 ≤ l0.length → slices_IndexFunc_api_Wait_api_Wait.l1 k l0 m (i1652 : Int) = slices_IndexFunc_api_Wait_api_Wait.r1 k l0 (l0.drop i1652) i1652 := by
  intro m
  induction m with
  | zero => intro i1652 h hi; omega
  | succ m ih =>
    intro i1652 h hi
    by_cases hc : i1652 < l0.length
    · have hw : wrap64 ((i1652 : Int) + 1) = ((i1652 + 1 : Nat) : Int) := by unfold wrap64; omega
      have hg : l0[(i1652 : Int).toNat]? = some l0[i1652] := by rw [Int.toNat_natCast]; exact List.getElem?_eq_getElem hc
      have ih2 := ih (i1652 + 1) (by omega) (by omega)
      rw [List.drop_eq_getElem_cons hc, slices_IndexFunc_api_Wait_api_Wait.l1, slices_IndexFunc_api_Wait_api_Wait.r1, if_pos (by omega), if_pos (by omega), hg, Option.bind_some]
      simp only [hw, ih2]
    · rw [List.drop_of_length_le (by omega), slices_IndexFunc_api_Wait_api_Wait.l1, slices_IndexFunc_api_Wait_api_Wait.r1, if_neg (by omega)]
def queue_Right.r1 (k : Nat) (l0 : List S23) : List S23 → Nat → Option (Bool)
  | [], i1529 => ((queue_all.f k l0).bind fun t1716 => (some t1716))
  | x1710 :: xsi1529, i1529 => (if 0 ≤ IntKind.i64.wrap ((wrap64 ((i1529 : Int) - 1)).tdiv 2) then ((l0[(IntKind.i64.wrap ((wrap64 ((i1529 : Int) - 1)).tdiv 2)).toNat]?).bind fun x1712 => ((queue_Less.f k x1710.f0 x1710.f1 x1710.f2 x1712.f0 x1712.f1 x1712.f2).bind fun t1713 => (if t1713 = true then (some false) else (queue_Right.r1 k l0 xsi1529 (i1529 + 1))))) else none)
set_option maxHeartbeats 1000000 in
theorem queue_Right.r1_eq (k : Nat) (l0 : List S23)  (hs : l0.length < 4611686018427387904) : ∀ (m i1529 : Nat), l0.length < m + i1529 → i1529 ≤ l0.length → queue_Right.l1 k l0 m (i1529 : Int) = queue_Right.r1 k l0 (l0.drop i1529) i1529 := by
  intro m
  induction m with
  | zero => intro i1529 h hi; omega
  | succ m ih =>
    intro i1529 h hi
    by_cases hc : i1529 < l0.length
    · have hw : wrap64 ((i1529 : Int) + 1) = ((i1529 + 1 : Nat) : Int) := by unfold wrap64; omega
      have hg : l0[(i1529 : Int).toNat]? = some l0[i1529] := by rw [Int.toNat_natCast]; exact List.getElem?_eq_getElem hc
      have ih2 := ih (i1529 + 1) (by omega) (by omega)
      rw [List.drop_eq_getElem_cons hc, queue_Right.l1, queue_Right.r1, if_pos (by omega), if_pos (by omega), hg, Option.bind_some]
      simp only [hw, ih2]
    · rw [List.drop_of_length_le (by omega), queue_Right.l1, queue_Right.r1, if_neg (by omega)]
def slices_IndexFunc_api_Line_api_Line.r1 (k : Nat) (a1_90_0 : ByteArray) (a1_90_1 : Int) (a1_90_2 : Int) (a1_90_3 : Int) (l0 : List S25) : List S25 → Nat → Option (Int)
  | [], i1811 => (some (-1))
  | x1840 :: xsi1811, i1811 => ((waits_like_is.f a1_90_0 a1_90_1 a1_90_2 a1_90_3 x1840.f0 x1840.f1 x1840.f2 x1840.f3).bind fun t1843 => (if t1843 = true then (some (i1811 : Int)) else (slices_IndexFunc_api_Line_api_Line.r1 k a1_90_0 a1_90_1 a1_90_2 a1_90_3 l0 xsi1811 (i1811 + 1))))
set_option maxHeartbeats 1000000 in
theorem slices_IndexFunc_api_Line_api_Line.r1_eq (k : Nat) (a1_90_0 : ByteArray) (a1_90_1 : Int) (a1_90_2 : Int) (a1_90_3 : Int) (l0 : List S25)  (hs : l0.length < 4611686018427387904) : ∀ (m i1811 : Nat), l0.length < m + i1811 → i1811 ≤ l0.length → slices_IndexFunc_api_Line_api_Line.l1 k a1_90_0 a1_90_1 a1_90_2 a1_90_3 l0 m (i1811 : Int) = slices_IndexFunc_api_Line_api_Line.r1 k a1_90_0 a1_90_1 a1_90_2 a1_90_3 l0 (l0.drop i1811) i1811 := by
  intro m
  induction m with
  | zero => intro i1811 h hi; omega
  | succ m ih =>
    intro i1811 h hi
    by_cases hc : i1811 < l0.length
    · have hw : wrap64 ((i1811 : Int) + 1) = ((i1811 + 1 : Nat) : Int) := by unfold wrap64; omega
      have hg : l0[(i1811 : Int).toNat]? = some l0[i1811] := by rw [Int.toNat_natCast]; exact List.getElem?_eq_getElem hc
      have ih2 := ih (i1811 + 1) (by omega) (by omega)
      rw [List.drop_eq_getElem_cons hc, slices_IndexFunc_api_Line_api_Line.l1, slices_IndexFunc_api_Line_api_Line.r1, if_pos (by omega), if_pos (by omega), hg, Option.bind_some]
      simp only [hw, ih2]
    · rw [List.drop_of_length_le (by omega), slices_IndexFunc_api_Line_api_Line.l1, slices_IndexFunc_api_Line_api_Line.r1, if_neg (by omega)]
def waits_all.r1 (k : Nat) (l0 : List S25) : List S25 → Nat → Option (Bool)
  | [], i1957 => (some (decide ((l0.length : Int) ≤ 32)))
  | x2008 :: xsi1957, i1957 => ((waits_may.f k x2008.f0 x2008.f1 x2008.f2 x2008.f3).bind fun t2012 => (if t2012 = true then (if (i1957 : Int) ≤ (l0.length : Int) then ((slices_ContainsFunc_api_Line_api_Line.f k ((l0.take (i1957 : Int).toNat).drop 0) x2008.f0 x2008.f1 x2008.f2 x2008.f3).bind fun t2018 => (if t2018 = true then (some false) else (waits_all.r1 k l0 xsi1957 (i1957 + 1)))) else none) else (some false)))
set_option maxHeartbeats 1000000 in
theorem waits_all.r1_eq (k : Nat) (l0 : List S25)  (hs : l0.length < 4611686018427387904) : ∀ (m i1957 : Nat), l0.length < m + i1957 → i1957 ≤ l0.length → waits_all.l1 k l0 m (i1957 : Int) = waits_all.r1 k l0 (l0.drop i1957) i1957 := by
  intro m
  induction m with
  | zero => intro i1957 h hi; omega
  | succ m ih =>
    intro i1957 h hi
    by_cases hc : i1957 < l0.length
    · have hw : wrap64 ((i1957 : Int) + 1) = ((i1957 + 1 : Nat) : Int) := by unfold wrap64; omega
      have hg : l0[(i1957 : Int).toNat]? = some l0[i1957] := by rw [Int.toNat_natCast]; exact List.getElem?_eq_getElem hc
      have ih2 := ih (i1957 + 1) (by omega) (by omega)
      rw [List.drop_eq_getElem_cons hc, waits_all.l1, waits_all.r1, if_pos (by omega), if_pos (by omega), hg, Option.bind_some]
      simp only [hw, ih2]
    · rw [List.drop_of_length_le (by omega), waits_all.l1, waits_all.r1, if_neg (by omega)]
-- slices_IsSortedFunc_api_Line_api_Line.l1: no index
-- tarryref07_Name.l1: another shape
def tarryref09_Twice.r1 (k : Nat) (a1_2 : Int) (a1_3 : Int) (l0 : List S25) : List S25 → Option (Bool)
  | [] => (some false)
  | x2835 :: xsi2791 => (if x2835.f3 = a1_3 then (some true) else (if x2835.f2 = a1_2 then (some true) else (tarryref09_Twice.r1 k a1_2 a1_3 l0 xsi2791)))
set_option maxHeartbeats 1000000 in
theorem tarryref09_Twice.r1_eq (k : Nat) (a1_2 : Int) (a1_3 : Int) (l0 : List S25)  (hs : l0.length < 4611686018427387904) : ∀ (m i2791 : Nat), l0.length < m + i2791 → i2791 ≤ l0.length → tarryref09_Twice.l1 k a1_2 a1_3 l0 m (i2791 : Int) = tarryref09_Twice.r1 k a1_2 a1_3 l0 (l0.drop i2791) := by
  intro m
  induction m with
  | zero => intro i2791 h hi; omega
  | succ m ih =>
    intro i2791 h hi
    by_cases hc : i2791 < l0.length
    · have hw : wrap64 ((i2791 : Int) + 1) = ((i2791 + 1 : Nat) : Int) := by unfold wrap64; omega
      have hg : l0[(i2791 : Int).toNat]? = some l0[i2791] := by rw [Int.toNat_natCast]; exact List.getElem?_eq_getElem hc
      have ih2 := ih (i2791 + 1) (by omega) (by omega)
      rw [List.drop_eq_getElem_cons hc, tarryref09_Twice.l1, tarryref09_Twice.r1, if_pos (by omega), if_pos (by omega), hg, Option.bind_some]
      simp only [hw, ih2]
    · rw [List.drop_of_length_le (by omega), tarryref09_Twice.l1, tarryref09_Twice.r1, if_neg (by omega)]
def tarryref09_All.r1 (k : Nat) (l0 : List S25) : List S25 → Nat → Option (Bool)
  | [], i2954 => (some (decide ((l0.length : Int) ≤ 32)))
  | x3005 :: xsi2954, i2954 => ((tarryref09_May.f k x3005.f0 x3005.f1 x3005.f2 x3005.f3).bind fun t3009 => (if t3009 = true then (if (i2954 : Int) ≤ (l0.length : Int) then ((tarryref09_Twice.f k ((l0.take (i2954 : Int).toNat).drop 0) x3005.f0 x3005.f1 x3005.f2 x3005.f3).bind fun t3015 => (if t3015 = true then (some false) else (tarryref09_All.r1 k l0 xsi2954 (i2954 + 1)))) else none) else (some false)))
set_option maxHeartbeats 1000000 in
theorem tarryref09_All.r1_eq (k : Nat) (l0 : List S25)  (hs : l0.length < 4611686018427387904) : ∀ (m i2954 : Nat), l0.length < m + i2954 → i2954 ≤ l0.length → tarryref09_All.l1 k l0 m (i2954 : Int) = tarryref09_All.r1 k l0 (l0.drop i2954) i2954 := by
  intro m
  induction m with
  | zero => intro i2954 h hi; omega
  | succ m ih =>
    intro i2954 h hi
    by_cases hc : i2954 < l0.length
    · have hw : wrap64 ((i2954 : Int) + 1) = ((i2954 + 1 : Nat) : Int) := by unfold wrap64; omega
      have hg : l0[(i2954 : Int).toNat]? = some l0[i2954] := by rw [Int.toNat_natCast]; exact List.getElem?_eq_getElem hc
      have ih2 := ih (i2954 + 1) (by omega) (by omega)
      rw [List.drop_eq_getElem_cons hc, tarryref09_All.l1, tarryref09_All.r1, if_pos (by omega), if_pos (by omega), hg, Option.bind_some]
      simp only [hw, ih2]
    · rw [List.drop_of_length_le (by omega), tarryref09_All.l1, tarryref09_All.r1, if_neg (by omega)]
-- tarryref07_Less.l1: another shape
def tarryref09_Make.r9 (k : Nat) (rec_l5 : (List S25) → Option (List S25)) (i4521 : Int) (l4520 : List S25) (x5014 : S25) : List S25 → Nat → Option (List S25)
  | [], i5071 => (if 0 ≤ (i5071 : Int) then (if (i5071 : Int) ≤ (l4520.length : Int) then (if (([] : List S25).length + ((l4520.take (i5071 : Int).toNat).drop 0).length) * 40 ≤ 140737488355328 then (if ((([] : List S25) ++ ((l4520.take (i5071 : Int).toNat).drop 0)).length + ([x5014] : List S25).length) * 40 ≤ 140737488355328 then (if (((([] : List S25) ++ ((l4520.take (i5071 : Int).toNat).drop 0)) ++ ([x5014] : List S25)).length + ((l4520.take l4520.length).drop (i5071 : Int).toNat).length) * 40 ≤ 140737488355328 then (rec_l5 (((([] : List S25) ++ ((l4520.take (i5071 : Int).toNat).drop 0)) ++ ([x5014] : List S25)) ++ ((l4520.take l4520.length).drop (i5071 : Int).toNat))) else none) else none) else none) else none) else none)
  | x5133 :: xsi5071, i5071 => ((tarryref09_Less.f k x5133.f0 x5133.f1 x5133.f2 x5133.f3 x5014.f0 x5014.f1 x5014.f2 x5014.f3).bind fun t5134 => (if t5134 = true then (tarryref09_Make.r9 k rec_l5 i4521 l4520 x5014 xsi5071 (i5071 + 1)) else (if (i5071 : Int) ≤ (l4520.length : Int) then (if (([] : List S25).length + ((l4520.take (i5071 : Int).toNat).drop 0).length) * 40 ≤ 140737488355328 then (if ((([] : List S25) ++ ((l4520.take (i5071 : Int).toNat).drop 0)).length + ([x5014] : List S25).length) * 40 ≤ 140737488355328 then (if (((([] : List S25) ++ ((l4520.take (i5071 : Int).toNat).drop 0)) ++ ([x5014] : List S25)).length + ((l4520.take l4520.length).drop (i5071 : Int).toNat).length) * 40 ≤ 140737488355328 then (rec_l5 (((([] : List S25) ++ ((l4520.take (i5071 : Int).toNat).drop 0)) ++ ([x5014] : List S25)) ++ ((l4520.take l4520.length).drop (i5071 : Int).toNat))) else none) else none) else none) else none)))
set_option maxHeartbeats 1000000 in
theorem tarryref09_Make.r9_eq (k : Nat) (rec_l5 : (List S25) → Int → Option (List S25)) (i4521 : Int) (l4520 : List S25) (x5014 : S25)  (hs : l4520.length < 4611686018427387904) : ∀ (m i5071 : Nat), l4520.length < m + i5071 → i5071 ≤ l4520.length → tarryref09_Make.l9 k rec_l5 i4521 l4520 x5014 m (i5071 : Int) = tarryref09_Make.r9 k (fun z0 => rec_l5 z0 (wrap64 (i4521 + 1))) i4521 l4520 x5014 (l4520.drop i5071) i5071 := by
  intro m
  induction m with
  | zero => intro i5071 h hi; omega
  | succ m ih =>
    intro i5071 h hi
    by_cases hc : i5071 < l4520.length
    · have hw : wrap64 ((i5071 : Int) + 1) = ((i5071 + 1 : Nat) : Int) := by unfold wrap64; omega
      have hg : l4520[(i5071 : Int).toNat]? = some l4520[i5071] := by rw [Int.toNat_natCast]; exact List.getElem?_eq_getElem hc
      have ih2 := ih (i5071 + 1) (by omega) (by omega)
      rw [List.drop_eq_getElem_cons hc, tarryref09_Make.l9, tarryref09_Make.r9, if_pos (by omega), if_pos (by omega), hg, Option.bind_some]
      simp only [hw, ih2]
    · rw [List.drop_of_length_le (by omega), tarryref09_Make.l9, tarryref09_Make.r9, if_neg (by omega)]
      try simp only [Int.natCast_zero]
-- tarryref09_Make.l5: an inner loop over l4520
def tarryref09_Same.r1 (k : Nat) (l0 : List S25) (l1 : List S25) : List S25 → Nat → Option (Bool)
  | [], i5237 => (some true)
  | x5260 :: xsi5237, i5237 => ((l1[(i5237 : Int).toNat]?).bind fun x5261 => (if (((x5260.f0 == x5261.f0) && ((x5260.f1 == x5261.f1) && ((x5260.f2 == x5261.f2) && (x5260.f3 == x5261.f3))))) = true then (tarryref09_Same.r1 k l0 l1 xsi5237 (i5237 + 1)) else (some false)))
set_option maxHeartbeats 1000000 in
theorem tarryref09_Same.r1_eq (k : Nat) (l0 : List S25) (l1 : List S25)  (hs : l0.length < 4611686018427387904) : ∀ (m i5237 : Nat), l0.length < m + i5237 → i5237 ≤ l0.length → tarryref09_Same.l1 k l0 l1 m (i5237 : Int) = tarryref09_Same.r1 k l0 l1 (l0.drop i5237) i5237 := by
  intro m
  induction m with
  | zero => intro i5237 h hi; omega
  | succ m ih =>
    intro i5237 h hi
    by_cases hc : i5237 < l0.length
    · have hw : wrap64 ((i5237 : Int) + 1) = ((i5237 + 1 : Nat) : Int) := by unfold wrap64; omega
      have hg : l0[(i5237 : Int).toNat]? = some l0[i5237] := by rw [Int.toNat_natCast]; exact List.getElem?_eq_getElem hc
      have ih2 := ih (i5237 + 1) (by omega) (by omega)
      rw [List.drop_eq_getElem_cons hc, tarryref09_Same.l1, tarryref09_Same.r1, if_pos (by omega), if_pos (by omega), hg, Option.bind_some]
      simp only [hw, ih2]
    · rw [List.drop_of_length_le (by omega), tarryref09_Same.l1, tarryref09_Same.r1, if_neg (by omega)]
def waits_Of.r1 (k : Nat) (a1 : ByteArray) (l0 : List S25) : List S25 → (List S23) → Option (List S23 × Int)
  | [], l5415 => (some (l5415, 0))
  | x5461 :: xsi5417, l5415 => (if (x5461.f0 == a1) = true then (if (l5415.length + ([(⟨x5461.f1, x5461.f2, x5461.f3⟩ : S23)] : List S23).length) * 24 ≤ 140737488355328 then (waits_Of.r1 k a1 l0 xsi5417 (l5415 ++ ([(⟨x5461.f1, x5461.f2, x5461.f3⟩ : S23)] : List S23))) else none) else (waits_Of.r1 k a1 l0 xsi5417 l5415))
set_option maxHeartbeats 1000000 in
theorem waits_Of.r1_eq (k : Nat) (a1 : ByteArray) (l0 : List S25)  (hs : l0.length < 4611686018427387904) : ∀ (m i5417 : Nat) (l5415 : List S23), l0.length < m + i5417 → i5417 ≤ l0.length → waits_Of.l1 k a1 l0 m l5415 (i5417 : Int) = waits_Of.r1 k a1 l0 (l0.drop i5417) l5415 := by
  intro m
  induction m with
  | zero => intro i5417 l5415 h hi; omega
  | succ m ih =>
    intro i5417 l5415 h hi
    by_cases hc : i5417 < l0.length
    · have hw : wrap64 ((i5417 : Int) + 1) = ((i5417 + 1 : Nat) : Int) := by unfold wrap64; omega
      have hg : l0[(i5417 : Int).toNat]? = some l0[i5417] := by rw [Int.toNat_natCast]; exact List.getElem?_eq_getElem hc
      have ih2 := fun l5415 => ih (i5417 + 1) l5415 (by omega) (by omega)
      rw [List.drop_eq_getElem_cons hc, waits_Of.l1, waits_Of.r1, if_pos (by omega), if_pos (by omega), hg, Option.bind_some]
      simp only [hw, ih2]
    · rw [List.drop_of_length_le (by omega), waits_Of.l1, waits_Of.r1, if_neg (by omega)]

end Go.Proofs.Ytdofmkbffffbpaa.PWaitsStand
