/- Written by a program of this repo: what the program's functions do, each as a Lean function, shown of the loaded code; or a statement's row over that; no condition of its own. -/
import Derived.Test.YtdofmkbffffbpaaPWaitsBuiltx0
namespace Go.Proofs.Ytdofmkbffffbpaa.PWaitsBuilt
open Go Go.RowKit Go.Proofs.YtdofmkbffffbpaaV
set_option linter.unusedVariables false
set_option linter.unusedSimpArgs false

def tarrylaw09_few.r1 (k : Nat) (l0 : List S25) : List S25 → (List S25) → Option (List S25)
  | [], l95 => (some l95)
  | x120 :: xsi97, l95 => ((tarrylaw09_cut.f x120.f0 x120.f1 x120.f2 x120.f3).bind fun ⟨t124, t125, t126, t127⟩ => (if (l95.length + ([(⟨t124, t125, t126, t127⟩ : S25)] : List S25).length) * 40 ≤ 140737488355328 then (tarrylaw09_few.r1 k l0 xsi97 (l95 ++ ([(⟨t124, t125, t126, t127⟩ : S25)] : List S25))) else none))
set_option maxHeartbeats 1000000 in
theorem tarrylaw09_few.r1_eq (k : Nat) (l0 : List S25)  (hs : ((l0.take ((mn (l0.length : Int) 34).toNat)).drop 0).length < 4611686018427387904) : ∀ (m i97 : Nat) (l95 : List S25), ((l0.take ((mn (l0.length : Int) 34).toNat)).drop 0).length < m + i97 → i97 ≤ ((l0.take ((mn (l0.length : Int) 34).toNat)).drop 0).length → tarrylaw09_few.l1 k l0 m l95 (i97 : Int) = tarrylaw09_few.r1 k l0 (((l0.take ((mn (l0.length : Int) 34).toNat)).drop 0).drop i97) l95 := by
  intro m
  induction m with
  | zero => intro i97 l95 h hi; omega
  | succ m ih =>
    intro i97 l95 h hi
    by_cases hc : i97 < ((l0.take ((mn (l0.length : Int) 34).toNat)).drop 0).length
    · have hw : wrap64 ((i97 : Int) + 1) = ((i97 + 1 : Nat) : Int) := by unfold wrap64; omega
      have hg : ((l0.take ((mn (l0.length : Int) 34).toNat)).drop 0)[(i97 : Int).toNat]? = some ((l0.take ((mn (l0.length : Int) 34).toNat)).drop 0)[i97] := by rw [Int.toNat_natCast]; exact List.getElem?_eq_getElem hc
      have ih2 := fun l95 => ih (i97 + 1) l95 (by omega) (by omega)
      rw [List.drop_eq_getElem_cons hc, tarrylaw09_few.l1, tarrylaw09_few.r1, if_pos (by omega), if_pos (by omega), hg, Option.bind_some]
      simp only [hw, ih2]
    · rw [List.drop_of_length_le (by omega), tarrylaw09_few.l1, tarrylaw09_few.r1, if_neg (by omega)]
def slices_IndexFunc_api_Sub_api_Sub.r1 (k : Nat) (a1_0_0 : ByteArray) (a1_0_1 : ByteArray) (a1_0_2 : Int) (a1_0_3 : Int) (a1_0_4 : Int) (l0 : List S93) : List S93 → Nat → Option (Int)
  | [], i242 => (some (-1))
  | x271 :: xsi242, i242 => ((goods_Right_1.f x271.f0 x271.f1 x271.f2 x271.f3 x271.f4 a1_0_0 a1_0_1 a1_0_2 a1_0_3 a1_0_4).bind fun t274 => (if t274 = true then (some (i242 : Int)) else (slices_IndexFunc_api_Sub_api_Sub.r1 k a1_0_0 a1_0_1 a1_0_2 a1_0_3 a1_0_4 l0 xsi242 (i242 + 1))))
set_option maxHeartbeats 1000000 in
theorem slices_IndexFunc_api_Sub_api_Sub.r1_eq (k : Nat) (a1_0_0 : ByteArray) (a1_0_1 : ByteArray) (a1_0_2 : Int) (a1_0_3 : Int) (a1_0_4 : Int) (l0 : List S93)  (hs : l0.length < 4611686018427387904) : ∀ (m i242 : Nat), l0.length < m + i242 → i242 ≤ l0.length → slices_IndexFunc_api_Sub_api_Sub.l1 k a1_0_0 a1_0_1 a1_0_2 a1_0_3 a1_0_4 l0 m (i242 : Int) = slices_IndexFunc_api_Sub_api_Sub.r1 k a1_0_0 a1_0_1 a1_0_2 a1_0_3 a1_0_4 l0 (l0.drop i242) i242 := by
  intro m
  induction m with
  | zero => intro i242 h hi; omega
  | succ m ih =>
    intro i242 h hi
    by_cases hc : i242 < l0.length
    · have hw : wrap64 ((i242 : Int) + 1) = ((i242 + 1 : Nat) : Int) := by unfold wrap64; omega
      have hg : l0[(i242 : Int).toNat]? = some l0[i242] := by rw [Int.toNat_natCast]; exact List.getElem?_eq_getElem hc
      have ih2 := ih (i242 + 1) (by omega) (by omega)
      rw [List.drop_eq_getElem_cons hc, slices_IndexFunc_api_Sub_api_Sub.l1, slices_IndexFunc_api_Sub_api_Sub.r1, if_pos (by omega), if_pos (by omega), hg, Option.bind_some]
      simp only [hw, ih2]
    · rw [List.drop_of_length_le (by omega), slices_IndexFunc_api_Sub_api_Sub.l1, slices_IndexFunc_api_Sub_api_Sub.r1, if_neg (by omega)]
def slices_IndexFunc_byte_byte.r1 (k : Nat) (l0 : List Int) : List Int → Nat → Option (Int)
  | [], i378 => (some (-1))
  | x407 :: xsi378, i378 => ((goods_name_1.f x407).bind fun t410 => (if t410 = true then (some (i378 : Int)) else (slices_IndexFunc_byte_byte.r1 k l0 xsi378 (i378 + 1))))
set_option maxHeartbeats 1000000 in
theorem slices_IndexFunc_byte_byte.r1_eq (k : Nat) (l0 : List Int)  (hs : l0.length < 4611686018427387904) : ∀ (m i378 : Nat), l0.length < m + i378 → i378 ≤ l0.length → slices_IndexFunc_byte_byte.l1 k l0 m (i378 : Int) = slices_IndexFunc_byte_byte.r1 k l0 (l0.drop i378) i378 := by
  intro m
  induction m with
  | zero => intro i378 h hi; omega
  | succ m ih =>
    intro i378 h hi
    by_cases hc : i378 < l0.length
    · have hw : wrap64 ((i378 : Int) + 1) = ((i378 + 1 : Nat) : Int) := by unfold wrap64; omega
      have hg : l0[(i378 : Int).toNat]? = some l0[i378] := by rw [Int.toNat_natCast]; exact List.getElem?_eq_getElem hc
      have ih2 := ih (i378 + 1) (by omega) (by omega)
      rw [List.drop_eq_getElem_cons hc, slices_IndexFunc_byte_byte.l1, slices_IndexFunc_byte_byte.r1, if_pos (by omega), if_pos (by omega), hg, Option.bind_some]
      simp only [hw, ih2]
    · rw [List.drop_of_length_le (by omega), slices_IndexFunc_byte_byte.l1, slices_IndexFunc_byte_byte.r1, if_neg (by omega)]
def slices_Index_string_string.r1 (k : Nat) (a1 : ByteArray) (l0 : List ByteArray) : List ByteArray → Nat → Option (Int)
  | [], i529 => (some (-1))
  | x555 :: xsi529, i529 => (if (a1 == x555) = true then (some (i529 : Int)) else (slices_Index_string_string.r1 k a1 l0 xsi529 (i529 + 1)))
set_option maxHeartbeats 1000000 in
theorem slices_Index_string_string.r1_eq (k : Nat) (a1 : ByteArray) (l0 : List ByteArray)  (hs : l0.length < 4611686018427387904) : ∀ (m i529 : Nat), l0.length < m + i529 → i529 ≤ l0.length → slices_Index_string_string.l1 k a1 l0 m (i529 : Int) = slices_Index_string_string.r1 k a1 l0 (l0.drop i529) i529 := by
  intro m
  induction m with
  | zero => intro i529 h hi; omega
  | succ m ih =>
    intro i529 h hi
    by_cases hc : i529 < l0.length
    · have hw : wrap64 ((i529 : Int) + 1) = ((i529 + 1 : Nat) : Int) := by unfold wrap64; omega
      have hg : l0[(i529 : Int).toNat]? = some l0[i529] := by rw [Int.toNat_natCast]; exact List.getElem?_eq_getElem hc
      have ih2 := ih (i529 + 1) (by omega) (by omega)
      rw [List.drop_eq_getElem_cons hc, slices_Index_string_string.l1, slices_Index_string_string.r1, if_pos (by omega), if_pos (by omega), hg, Option.bind_some]
      simp only [hw, ih2]
    · rw [List.drop_of_length_le (by omega), slices_Index_string_string.l1, slices_Index_string_string.r1, if_neg (by omega)]
def slices_IndexFunc_string_string.r1 (k : Nat) (l0 : List ByteArray) : List ByteArray → Nat → Option (Int)
  | [], i935 => (some (-1))
  | x964 :: xsi935, i935 => ((goods_Right_2.f k x964).bind fun t967 => (if t967 = true then (some (i935 : Int)) else (slices_IndexFunc_string_string.r1 k l0 xsi935 (i935 + 1))))
set_option maxHeartbeats 1000000 in
theorem slices_IndexFunc_string_string.r1_eq (k : Nat) (l0 : List ByteArray)  (hs : l0.length < 4611686018427387904) : ∀ (m i935 : Nat), l0.length < m + i935 → i935 ≤ l0.length → slices_IndexFunc_string_string.l1 k l0 m (i935 : Int) = slices_IndexFunc_string_string.r1 k l0 (l0.drop i935) i935 := by
  intro m
  induction m with
  | zero => intro i935 h hi; omega
  | succ m ih =>
    intro i935 h hi
    by_cases hc : i935 < l0.length
    · have hw : wrap64 ((i935 : Int) + 1) = ((i935 + 1 : Nat) : Int) := by unfold wrap64; omega
      have hg : l0[(i935 : Int).toNat]? = some l0[i935] := by rw [Int.toNat_natCast]; exact List.getElem?_eq_getElem hc
      have ih2 := ih (i935 + 1) (by omega) (by omega)
      rw [List.drop_eq_getElem_cons hc, slices_IndexFunc_string_string.l1, slices_IndexFunc_string_string.r1, if_pos (by omega), if_pos (by omega), hg, Option.bind_some]
      simp only [hw, ih2]
    · rw [List.drop_of_length_le (by omega), slices_IndexFunc_string_string.l1, slices_IndexFunc_string_string.r1, if_neg (by omega)]
-- goods_rising_string.l1: another shape
def cmp_Or_int.r1 (k : Nat) (l0 : List Int) : List Int → Option (Int)
  | [] => (some 0)
  | x1230 :: xsi1204 => (if x1230 = 0 then (cmp_Or_int.r1 k l0 xsi1204) else (some x1230))
set_option maxHeartbeats 1000000 in
theorem cmp_Or_int.r1_eq (k : Nat) (l0 : List Int)  (hs : l0.length < 4611686018427387904) : ∀ (m i1204 : Nat), l0.length < m + i1204 → i1204 ≤ l0.length → cmp_Or_int.l1 k l0 m (i1204 : Int) = cmp_Or_int.r1 k l0 (l0.drop i1204) := by
  intro m
  induction m with
  | zero => intro i1204 h hi; omega
  | succ m ih =>
    intro i1204 h hi
    by_cases hc : i1204 < l0.length
    · have hw : wrap64 ((i1204 : Int) + 1) = ((i1204 + 1 : Nat) : Int) := by unfold wrap64; omega
      have hg : l0[(i1204 : Int).toNat]? = some l0[i1204] := by rw [Int.toNat_natCast]; exact List.getElem?_eq_getElem hc
      have ih2 := ih (i1204 + 1) (by omega) (by omega)
      rw [List.drop_eq_getElem_cons hc, cmp_Or_int.l1, cmp_Or_int.r1, if_pos (by omega), if_pos (by omega), hg, Option.bind_some]
      simp only [hw, ih2]
    · rw [List.drop_of_length_le (by omega), cmp_Or_int.l1, cmp_Or_int.r1, if_neg (by omega)]
-- goods_rising_Sub.l1: another shape
def goods_Right.r1 (k : Nat) (l0_0 : List ByteArray) (l0_1 : List S93) : List S93 → Nat → Option (Bool)
  | [], i796 => ((slices_ContainsFunc_string_string.f k l0_0).bind fun t1421 => (if t1421 = true then (some false) else ((goods_rising_string.f k l0_0 8).bind fun t1429 => (if t1429 = true then ((goods_rising_Sub.f k l0_1 16).bind fun t1432 => (some t1432)) else (some false)))))
  | x1389 :: xsi796, i796 => (if (i796 : Int) ≤ (l0_1.length : Int) then ((slices_ContainsFunc_api_Sub_api_Sub.f k ((l0_1.take (i796 : Int).toNat).drop 0) x1389.f0 x1389.f1 x1389.f2 x1389.f3 x1389.f4).bind fun t1396 => (if t1396 = true then (some false) else ((goods_may.f k x1389.f0 x1389.f1 x1389.f2 x1389.f3 x1389.f4).bind fun t1409 => (if t1409 = true then ((slices_Contains_string_string.f k l0_0 x1389.f0).bind fun t1412 => (if t1412 = true then ((slices_Contains_string_string.f k l0_0 x1389.f1).bind fun t1415 => (if t1415 = true then (goods_Right.r1 k l0_0 l0_1 xsi796 (i796 + 1)) else (some false))) else (some false))) else (some false))))) else none)
set_option maxHeartbeats 1000000 in
theorem goods_Right.r1_eq (k : Nat) (l0_0 : List ByteArray) (l0_1 : List S93)  (hs : l0_1.length < 4611686018427387904) : ∀ (m i796 : Nat), l0_1.length < m + i796 → i796 ≤ l0_1.length → goods_Right.l1 k l0_0 l0_1 m (i796 : Int) = goods_Right.r1 k l0_0 l0_1 (l0_1.drop i796) i796 := by
  intro m
  induction m with
  | zero => intro i796 h hi; omega
  | succ m ih =>
    intro i796 h hi
    by_cases hc : i796 < l0_1.length
    · have hw : wrap64 ((i796 : Int) + 1) = ((i796 + 1 : Nat) : Int) := by unfold wrap64; omega
      have hg : l0_1[(i796 : Int).toNat]? = some l0_1[i796] := by rw [Int.toNat_natCast]; exact List.getElem?_eq_getElem hc
      have ih2 := ih (i796 + 1) (by omega) (by omega)
      rw [List.drop_eq_getElem_cons hc, goods_Right.l1, goods_Right.r1, if_pos (by omega), if_pos (by omega), hg, Option.bind_some]
      simp only [hw, ih2]
    · rw [List.drop_of_length_le (by omega), goods_Right.l1, goods_Right.r1, if_neg (by omega)]
def slices_IndexFunc_api_Wait_api_Wait.r1 (k : Nat) (l0 : List S23) : List S23 → Nat → Option (Int)
  | [], i1652 => (some (-1))
  | x1681 :: xsi1652, i1652 => ((queue_all_1.f x1681.f0 x1681.f1 x1681.f2).bind fun t1684 => (if t1684 = true then (some (i1652 : Int)) else (slices_IndexFunc_api_Wait_api_Wait.r1 k l0 xsi1652 (i1652 + 1))))
set_option maxHeartbeats 1000000 in
theorem slices_IndexFunc_api_Wait_api_Wait.r1_eq (k : Nat) (l0 : List S23)  (hs : l0.length < 4611686018427387904) : ∀ (m i1652 : Nat), l0.length < m + i1652 → i1652 ≤ l0.length → slices_IndexFunc_api_Wait_api_Wait.l1 k l0 m (i1652 : Int) = slices_IndexFunc_api_Wait_api_Wait.r1 k l0 (l0.drop i1652) i1652 := by
  intro m
  induction m with
  | zero => intro i1652 h hi; omega
  | succ m ih =>
    intro i1652 h hi
    by_cases hc : i1652 < l0.length
    · have hw : wrap64 ((i1652 : Int) + 1) = ((i1652 + 1 : Nat) : Int) := by unfold wrap64; omega
      have hg : l0[(i1652 : Int).toNat]? = some l0[i1652] := by rw [Int.toNat_natCast]; exact List.getElem?_eq_getElem hc
      have ih2 := ih (i1652 + 1) (by omega) (by omega)
      rw [List.drop_eq_getElem_cons hc, slices_IndexFunc_api_Wait_api_Wait.l1, slices_IndexFunc_api_Wait_api_Wait.r1, if_pos (by omega), if_pos (by omega), hg, Option.bind_some]
      simp only [hw, ih2]
    · rw [List.drop_of_length_le (by omega), slices_IndexFunc_api_Wait_api_Wait.l1, slices_IndexFunc_api_Wait_api_Wait.r1, if_neg (by omega)]
def queue_Right.r1 (k : Nat) (l0 : List S23) : List S23 → Nat → Option (Bool)
  | [], i1529 => ((queue_all.f k l0).bind fun t1716 => (some t1716))
  | x1710 :: xsi1529, i1529 => (if 0 ≤ IntKind.i64.wrap ((wrap64 ((i1529 : Int) - 1)).tdiv 2) then ((l0[(IntKind.i64.wrap ((wrap64 ((i1529 : Int) - 1)).tdiv 2)).toNat]?).bind fun x1712 => ((queue_Less.f k x1710.f0 x1710.f1 x1710.f2 x1712.f0 x1712.f1 x1712.f2).bind fun t1713 => (if t1713 = true then (some false) else (queue_Right.r1 k l0 xsi1529 (i1529 + 1))))) else none)
set_option maxHeartbeats 1000000 in
theorem queue_Right.r1_eq (k : Nat) (l0 : List S23)  (hs : l0.length < 4611686018427387904) : ∀ (m i1529 : Nat), l0.length < m + i1529 → i1529 ≤ l0.length → queue_Right.l1 k l0 m (i1529 : Int) = queue_Right.r1 k l0 (l0.drop i1529) i1529 := by
  intro m
  induction m with
  | zero => intro i1529 h hi; omega
  | succ m ih =>
    intro i1529 h hi
    by_cases hc : i1529 < l0.length
    · have hw : wrap64 ((i1529 : Int) + 1) = ((i1529 + 1 : Nat) : Int) := by unfold wrap64; omega
      have hg : l0[(i1529 : Int).toNat]? = some l0[i1529] := by rw [Int.toNat_natCast]; exact List.getElem?_eq_getElem hc
      have ih2 := ih (i1529 + 1) (by omega) (by omega)
      rw [List.drop_eq_getElem_cons hc, queue_Right.l1, queue_Right.r1, if_pos (by omega), if_pos (by omega), hg, Option.bind_some]
      simp only [hw, ih2]
    · rw [List.drop_of_length_le (by omega), queue_Right.l1, queue_Right.r1, if_neg (by omega)]
def slices_IndexFunc_api_Line_api_Line.r1 (k : Nat) (a1_90_0 : ByteArray) (a1_90_1 : Int) (a1_90_2 : Int) (a1_90_3 : Int) (l0 : List S25) : List S25 → Nat → Option (Int)
  | [], i1811 => (some (-1))
  | x1840 :: xsi1811, i1811 => ((waits_like_is.f a1_90_0 a1_90_1 a1_90_2 a1_90_3 x1840.f0 x1840.f1 x1840.f2 x1840.f3).bind fun t1843 => (if t1843 = true then (some (i1811 : Int)) else (slices_IndexFunc_api_Line_api_Line.r1 k a1_90_0 a1_90_1 a1_90_2 a1_90_3 l0 xsi1811 (i1811 + 1))))
set_option maxHeartbeats 1000000 in
theorem slices_IndexFunc_api_Line_api_Line.r1_eq (k : Nat) (a1_90_0 : ByteArray) (a1_90_1 : Int) (a1_90_2 : Int) (a1_90_3 : Int) (l0 : List S25)  (hs : l0.length < 4611686018427387904) : ∀ (m i1811 : Nat), l0.length < m + i1811 → i1811 ≤ l0.length → slices_IndexFunc_api_Line_api_Line.l1 k a1_90_0 a1_90_1 a1_90_2 a1_90_3 l0 m (i1811 : Int) = slices_IndexFunc_api_Line_api_Line.r1 k a1_90_0 a1_90_1 a1_90_2 a1_90_3 l0 (l0.drop i1811) i1811 := by
  intro m
  induction m with
  | zero => intro i1811 h hi; omega
  | succ m ih =>
    intro i1811 h hi
    by_cases hc : i1811 < l0.length
    · have hw : wrap64 ((i1811 : Int) + 1) = ((i1811 + 1 : Nat) : Int) := by unfold wrap64; omega
      have hg : l0[(i1811 : Int).toNat]? = some l0[i1811] := by rw [Int.toNat_natCast]; exact List.getElem?_eq_getElem hc
      have ih2 := ih (i1811 + 1) (by omega) (by omega)
      rw [List.drop_eq_getElem_cons hc, slices_IndexFunc_api_Line_api_Line.l1, slices_IndexFunc_api_Line_api_Line.r1, if_pos (by omega), if_pos (by omega), hg, Option.bind_some]
      simp only [hw, ih2]
    · rw [List.drop_of_length_le (by omega), slices_IndexFunc_api_Line_api_Line.l1, slices_IndexFunc_api_Line_api_Line.r1, if_neg (by omega)]
def waits_all.r1 (k : Nat) (l0 : List S25) : List S25 → Nat → Option (Bool)
  | [], i1957 => (some (decide ((l0.length : Int) ≤ 32)))
  | x2008 :: xsi1957, i1957 => ((waits_may.f k x2008.f0 x2008.f1 x2008.f2 x2008.f3).bind fun t2012 => (if t2012 = true then (if (i1957 : Int) ≤ (l0.length : Int) then ((slices_ContainsFunc_api_Line_api_Line.f k ((l0.take (i1957 : Int).toNat).drop 0) x2008.f0 x2008.f1 x2008.f2 x2008.f3).bind fun t2018 => (if t2018 = true then (some false) else (waits_all.r1 k l0 xsi1957 (i1957 + 1)))) else none) else (some false)))
set_option maxHeartbeats 1000000 in
theorem waits_all.r1_eq (k : Nat) (l0 : List S25)  (hs : l0.length < 4611686018427387904) : ∀ (m i1957 : Nat), l0.length < m + i1957 → i1957 ≤ l0.length → waits_all.l1 k l0 m (i1957 : Int) = waits_all.r1 k l0 (l0.drop i1957) i1957 := by
  intro m
  induction m with
  | zero => intro i1957 h hi; omega
  | succ m ih =>
    intro i1957 h hi
    by_cases hc : i1957 < l0.length
    · have hw : wrap64 ((i1957 : Int) + 1) = ((i1957 + 1 : Nat) : Int) := by unfold wrap64; omega
      have hg : l0[(i1957 : Int).toNat]? = some l0[i1957] := by rw [Int.toNat_natCast]; exact List.getElem?_eq_getElem hc
      have ih2 := ih (i1957 + 1) (by omega) (by omega)
      rw [List.drop_eq_getElem_cons hc, waits_all.l1, waits_all.r1, if_pos (by omega), if_pos (by omega), hg, Option.bind_some]
      simp only [hw, ih2]
    · rw [List.drop_of_length_le (by omega), waits_all.l1, waits_all.r1, if_neg (by omega)]
-- slices_IsSortedFunc_api_Line_api_Line.l1: no index
def waits_Of.r1 (k : Nat) (a1 : ByteArray) (l0 : List S25) : List S25 → (List S23) → Option (List S23 × Int)
  | [], l2371 => (some (l2371, 0))
  | x2417 :: xsi2373, l2371 => (if (x2417.f0 == a1) = true then (if (l2371.length + ([(⟨x2417.f1, x2417.f2, x2417.f3⟩ : S23)] : List S23).length) * 24 ≤ 140737488355328 then (waits_Of.r1 k a1 l0 xsi2373 (l2371 ++ ([(⟨x2417.f1, x2417.f2, x2417.f3⟩ : S23)] : List S23))) else none) else (waits_Of.r1 k a1 l0 xsi2373 l2371))
set_option maxHeartbeats 1000000 in
theorem waits_Of.r1_eq (k : Nat) (a1 : ByteArray) (l0 : List S25)  (hs : l0.length < 4611686018427387904) : ∀ (m i2373 : Nat) (l2371 : List S23), l0.length < m + i2373 → i2373 ≤ l0.length → waits_Of.l1 k a1 l0 m l2371 (i2373 : Int) = waits_Of.r1 k a1 l0 (l0.drop i2373) l2371 := by
  intro m
  induction m with
  | zero => intro i2373 l2371 h hi; omega
  | succ m ih =>
    intro i2373 l2371 h hi
    by_cases hc : i2373 < l0.length
    · have hw : wrap64 ((i2373 : Int) + 1) = ((i2373 + 1 : Nat) : Int) := by unfold wrap64; omega
      have hg : l0[(i2373 : Int).toNat]? = some l0[i2373] := by rw [Int.toNat_natCast]; exact List.getElem?_eq_getElem hc
      have ih2 := fun l2371 => ih (i2373 + 1) l2371 (by omega) (by omega)
      rw [List.drop_eq_getElem_cons hc, waits_Of.l1, waits_Of.r1, if_pos (by omega), if_pos (by omega), hg, Option.bind_some]
      simp only [hw, ih2]
    · rw [List.drop_of_length_le (by omega), waits_Of.l1, waits_Of.r1, if_neg (by omega)]
def tarryref09_Same.r1 (k : Nat) (l0 : List S25) (l1 : List S25) : List S25 → Nat → Option (Bool)
  | [], i2798 => (some true)
  | x2821 :: xsi2798, i2798 => ((l1[(i2798 : Int).toNat]?).bind fun x2822 => (if (((x2821.f0 == x2822.f0) && ((x2821.f1 == x2822.f1) && ((x2821.f2 == x2822.f2) && (x2821.f3 == x2822.f3))))) = true then (tarryref09_Same.r1 k l0 l1 xsi2798 (i2798 + 1)) else (some false)))
set_option maxHeartbeats 1000000 in
theorem tarryref09_Same.r1_eq (k : Nat) (l0 : List S25) (l1 : List S25)  (hs : l0.length < 4611686018427387904) : ∀ (m i2798 : Nat), l0.length < m + i2798 → i2798 ≤ l0.length → tarryref09_Same.l1 k l0 l1 m (i2798 : Int) = tarryref09_Same.r1 k l0 l1 (l0.drop i2798) i2798 := by
  intro m
  induction m with
  | zero => intro i2798 h hi; omega
  | succ m ih =>
    intro i2798 h hi
    by_cases hc : i2798 < l0.length
    · have hw : wrap64 ((i2798 : Int) + 1) = ((i2798 + 1 : Nat) : Int) := by unfold wrap64; omega
      have hg : l0[(i2798 : Int).toNat]? = some l0[i2798] := by rw [Int.toNat_natCast]; exact List.getElem?_eq_getElem hc
      have ih2 := ih (i2798 + 1) (by omega) (by omega)
      rw [List.drop_eq_getElem_cons hc, tarryref09_Same.l1, tarryref09_Same.r1, if_pos (by omega), if_pos (by omega), hg, Option.bind_some]
      simp only [hw, ih2]
    · rw [List.drop_of_length_le (by omega), tarryref09_Same.l1, tarryref09_Same.r1, if_neg (by omega)]
def slices_IndexFunc_api_Line_api_Line_s50.r1 (k : Nat) (a1_0_0 : Int) (l0 : List S25) : List S25 → Nat → Option (Int)
  | [], i2942 => (some (-1))
  | x2971 :: xsi2942, i2942 => ((waits_at_1.f x2971.f0 x2971.f1 x2971.f2 x2971.f3 a1_0_0).bind fun t2974 => (if t2974 = true then (some (i2942 : Int)) else (slices_IndexFunc_api_Line_api_Line_s50.r1 k a1_0_0 l0 xsi2942 (i2942 + 1))))
set_option maxHeartbeats 1000000 in
theorem slices_IndexFunc_api_Line_api_Line_s50.r1_eq (k : Nat) (a1_0_0 : Int) (l0 : List S25)  (hs : l0.length < 4611686018427387904) : ∀ (m i2942 : Nat), l0.length < m + i2942 → i2942 ≤ l0.length → slices_IndexFunc_api_Line_api_Line_s50.l1 k a1_0_0 l0 m (i2942 : Int) = slices_IndexFunc_api_Line_api_Line_s50.r1 k a1_0_0 l0 (l0.drop i2942) i2942 := by
  intro m
  induction m with
  | zero => intro i2942 h hi; omega
  | succ m ih =>
    intro i2942 h hi
    by_cases hc : i2942 < l0.length
    · have hw : wrap64 ((i2942 : Int) + 1) = ((i2942 + 1 : Nat) : Int) := by unfold wrap64; omega
      have hg : l0[(i2942 : Int).toNat]? = some l0[i2942] := by rw [Int.toNat_natCast]; exact List.getElem?_eq_getElem hc
      have ih2 := ih (i2942 + 1) (by omega) (by omega)
      rw [List.drop_eq_getElem_cons hc, slices_IndexFunc_api_Line_api_Line_s50.l1, slices_IndexFunc_api_Line_api_Line_s50.r1, if_pos (by omega), if_pos (by omega), hg, Option.bind_some]
      simp only [hw, ih2]
    · rw [List.drop_of_length_le (by omega), slices_IndexFunc_api_Line_api_Line_s50.l1, slices_IndexFunc_api_Line_api_Line_s50.r1, if_neg (by omega)]
def tarrylaw09_WaitsBuilt.r4 (k : Nat) (a1 : Int) (r134 : List S25) (r2087 : List S25) (t138 : ByteArray) (t139 : Int) (t140 : Int) (t141 : Int) : List S25 → (List S25) → Option (Bool)
  | [], l3273 => ((tarryref09_Same.f k l3273 r2087).bind fun t3404 => (if t3404 = true then ((tarrylaw09_alive.f k).bind fun t3407 => (if t3407 = true then ((waits_Put.f k l3273 t138 t139 t140 t141).bind fun ⟨r3410, t3411⟩ => (if t3411 = 0 then ((waits_Drop.f k r3410 t141).bind fun ⟨r3420, t3421⟩ => (if t3421 = 0 then ((tarryref09_Same.f k r3420 r2087).bind fun t3431 => (some t3431)) else none)) else (some ((r3410.length : Int) == 0)))) else none)) else none))
  | x3373 :: xsi3275, l3273 => ((waits_Put.f k l3273 x3373.f0 x3373.f1 x3373.f2 x3373.f3).bind fun ⟨r3377, t3378⟩ => (if t3378 = 0 then (tarrylaw09_WaitsBuilt.r4 k a1 r134 r2087 t138 t139 t140 t141 xsi3275 r3377) else none))
set_option maxHeartbeats 1000000 in
theorem tarrylaw09_WaitsBuilt.r4_eq (k : Nat) (a1 : Int) (r134 : List S25) (r2087 : List S25) (t138 : ByteArray) (t139 : Int) (t140 : Int) (t141 : Int)  (hs : ((([] : List S25) ++ ((r134.take r134.length).drop (((wrap64 ((a1.tmod (r134.length : Int)) + (r134.length : Int))).tmod (r134.length : Int)).toNat))) ++ ((r134.take (((wrap64 ((a1.tmod (r134.length : Int)) + (r134.length : Int))).tmod (r134.length : Int)).toNat)).drop 0)).length < 4611686018427387904) : ∀ (m i3275 : Nat) (l3273 : List S25), ((([] : List S25) ++ ((r134.take r134.length).drop (((wrap64 ((a1.tmod (r134.length : Int)) + (r134.length : Int))).tmod (r134.length : Int)).toNat))) ++ ((r134.take (((wrap64 ((a1.tmod (r134.length : Int)) + (r134.length : Int))).tmod (r134.length : Int)).toNat)).drop 0)).length < m + i3275 → i3275 ≤ ((([] : List S25) ++ ((r134.take r134.length).drop (((wrap64 ((a1.tmod (r134.length : Int)) + (r134.length : Int))).tmod (r134.length : Int)).toNat))) ++ ((r134.take (((wrap64 ((a1.tmod (r134.length : Int)) + (r134.length : Int))).tmod (r134.length : Int)).toNat)).drop 0)).length → tarrylaw09_WaitsBuilt.l4 k a1 r134 r2087 t138 t139 t140 t141 m l3273 (i3275 : Int) = tarrylaw09_WaitsBuilt.r4 k a1 r134 r2087 t138 t139 t140 t141 (((([] : List S25) ++ ((r134.take r134.length).drop (((wrap64 ((a1.tmod (r134.length : Int)) + (r134.length : Int))).tmod (r134.length : Int)).toNat))) ++ ((r134.take (((wrap64 ((a1.tmod (r134.length : Int)) + (r134.length : Int))).tmod (r134.length : Int)).toNat)).drop 0)).drop i3275) l3273 := by
  intro m
  induction m with
  | zero => intro i3275 l3273 h hi; omega
  | succ m ih =>
    intro i3275 l3273 h hi
    by_cases hc : i3275 < ((([] : List S25) ++ ((r134.take r134.length).drop (((wrap64 ((a1.tmod (r134.length : Int)) + (r134.length : Int))).tmod (r134.length : Int)).toNat))) ++ ((r134.take (((wrap64 ((a1.tmod (r134.length : Int)) + (r134.length : Int))).tmod (r134.length : Int)).toNat)).drop 0)).length
    · have hw : wrap64 ((i3275 : Int) + 1) = ((i3275 + 1 : Nat) : Int) := by unfold wrap64; omega
      have hg : ((([] : List S25) ++ ((r134.take r134.length).drop (((wrap64 ((a1.tmod (r134.length : Int)) + (r134.length : Int))).tmod (r134.length : Int)).toNat))) ++ ((r134.take (((wrap64 ((a1.tmod (r134.length : Int)) + (r134.length : Int))).tmod (r134.length : Int)).toNat)).drop 0))[(i3275 : Int).toNat]? = some ((([] : List S25) ++ ((r134.take r134.length).drop (((wrap64 ((a1.tmod (r134.length : Int)) + (r134.length : Int))).tmod (r134.length : Int)).toNat))) ++ ((r134.take (((wrap64 ((a1.tmod (r134.length : Int)) + (r134.length : Int))).tmod (r134.length : Int)).toNat)).drop 0))[i3275] := by rw [Int.toNat_natCast]; exact List.getElem?_eq_getElem hc
      have ih2 := fun l3273 => ih (i3275 + 1) l3273 (by omega) (by omega)
      rw [List.drop_eq_getElem_cons hc, tarrylaw09_WaitsBuilt.l4, tarrylaw09_WaitsBuilt.r4, if_pos (by omega), if_pos (by omega), hg, Option.bind_some]
      simp only [hw, ih2]
    · rw [List.drop_of_length_le (by omega), tarrylaw09_WaitsBuilt.l4, tarrylaw09_WaitsBuilt.r4, if_neg (by omega)]

end Go.Proofs.Ytdofmkbffffbpaa.PWaitsBuilt
