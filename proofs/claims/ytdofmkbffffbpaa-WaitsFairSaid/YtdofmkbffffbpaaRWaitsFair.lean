/- Written by a program of this repo: what the program's functions do, each as a Lean function, shown of the loaded code; or a statement's row over that; no condition of its own. -/
import Derived.Test.YtdofmkbffffbpaaPWaitsFairx0
namespace Go.Proofs.Ytdofmkbffffbpaa.PWaitsFair
open Go Go.RowKit Go.Proofs.YtdofmkbffffbpaaV
set_option linter.unusedVariables false
set_option linter.unusedSimpArgs false

def tarrylaw09_few.r1 (k : Nat) (l0 : List S25) : List S25 → (List S25) → Option (List S25)
  | [], l94 => (some l94)
  | x119 :: xsi96, l94 => ((tarrylaw09_cut.f x119.f0 x119.f1 x119.f2 x119.f3).bind fun ⟨t123, t124, t125, t126⟩ => (if (l94.length + ([(⟨t123, t124, t125, t126⟩ : S25)] : List S25).length) * 40 ≤ 140737488355328 then (tarrylaw09_few.r1 k l0 xsi96 (l94 ++ ([(⟨t123, t124, t125, t126⟩ : S25)] : List S25))) else none))
set_option maxHeartbeats 1000000 in
theorem tarrylaw09_few.r1_eq (k : Nat) (l0 : List S25)  (hs : ((l0.take ((mn (l0.length : Int) 34).toNat)).drop 0).length < 4611686018427387904) : ∀ (m i96 : Nat) (l94 : List S25), ((l0.take ((mn (l0.length : Int) 34).toNat)).drop 0).length < m + i96 → i96 ≤ ((l0.take ((mn (l0.length : Int) 34).toNat)).drop 0).length → tarrylaw09_few.l1 k l0 m l94 (i96 : Int) = tarrylaw09_few.r1 k l0 (((l0.take ((mn (l0.length : Int) 34).toNat)).drop 0).drop i96) l94 := by
  intro m
  induction m with
  | zero => intro i96 l94 h hi; omega
  | succ m ih =>
    intro i96 l94 h hi
    by_cases hc : i96 < ((l0.take ((mn (l0.length : Int) 34).toNat)).drop 0).length
    · have hw : wrap64 ((i96 : Int) + 1) = ((i96 + 1 : Nat) : Int) := by unfold wrap64; omega
      have hg : ((l0.take ((mn (l0.length : Int) 34).toNat)).drop 0)[(i96 : Int).toNat]? = some ((l0.take ((mn (l0.length : Int) 34).toNat)).drop 0)[i96] := by rw [Int.toNat_natCast]; exact List.getElem?_eq_getElem hc
      have ih2 := fun l94 => ih (i96 + 1) l94 (by omega) (by omega)
      rw [List.drop_eq_getElem_cons hc, tarrylaw09_few.l1, tarrylaw09_few.r1, if_pos (by omega), if_pos (by omega), hg, Option.bind_some]
      simp only [hw, ih2]
    · rw [List.drop_of_length_le (by omega), tarrylaw09_few.l1, tarrylaw09_few.r1, if_neg (by omega)]
def slices_IndexFunc_api_Sub_api_Sub.r1 (k : Nat) (a1_0_0 : ByteArray) (a1_0_1 : ByteArray) (a1_0_2 : Int) (a1_0_3 : Int) (a1_0_4 : Int) (l0 : List S93) : List S93 → Nat → Option (Int)
  | [], i257 => (some (-1))
  | x286 :: xsi257, i257 => ((goods_Right_1.f x286.f0 x286.f1 x286.f2 x286.f3 x286.f4 a1_0_0 a1_0_1 a1_0_2 a1_0_3 a1_0_4).bind fun t289 => (if t289 = true then (some (i257 : Int)) else (slices_IndexFunc_api_Sub_api_Sub.r1 k a1_0_0 a1_0_1 a1_0_2 a1_0_3 a1_0_4 l0 xsi257 (i257 + 1))))
set_option maxHeartbeats 1000000 in
theorem slices_IndexFunc_api_Sub_api_Sub.r1_eq (k : Nat) (a1_0_0 : ByteArray) (a1_0_1 : ByteArray) (a1_0_2 : Int) (a1_0_3 : Int) (a1_0_4 : Int) (l0 : List S93)  (hs : l0.length < 4611686018427387904) : ∀ (m i257 : Nat), l0.length < m + i257 → i257 ≤ l0.length → slices_IndexFunc_api_Sub_api_Sub.l1 k a1_0_0 a1_0_1 a1_0_2 a1_0_3 a1_0_4 l0 m (i257 : Int) = slices_IndexFunc_api_Sub_api_Sub.r1 k a1_0_0 a1_0_1 a1_0_2 a1_0_3 a1_0_4 l0 (l0.drop i257) i257 := by
  intro m
  induction m with
  | zero => intro i257 h hi; omega
  | succ m ih =>
    intro i257 h hi
    by_cases hc : i257 < l0.length
    · have hw : wrap64 ((i257 : Int) + 1) = ((i257 + 1 : Nat) : Int) := by unfold wrap64; omega
      have hg : l0[(i257 : Int).toNat]? = some l0[i257] := by rw [Int.toNat_natCast]; exact List.getElem?_eq_getElem hc
      have ih2 := ih (i257 + 1) (by omega) (by omega)
      rw [List.drop_eq_getElem_cons hc, slices_IndexFunc_api_Sub_api_Sub.l1, slices_IndexFunc_api_Sub_api_Sub.r1, if_pos (by omega), if_pos (by omega), hg, Option.bind_some]
      simp only [hw, ih2]
    · rw [List.drop_of_length_le (by omega), slices_IndexFunc_api_Sub_api_Sub.l1, slices_IndexFunc_api_Sub_api_Sub.r1, if_neg (by omega)]
def slices_IndexFunc_byte_byte.r1 (k : Nat) (l0 : List Int) : List Int → Nat → Option (Int)
  | [], i393 => (some (-1))
  | x422 :: xsi393, i393 => ((goods_name_1.f x422).bind fun t425 => (if t425 = true then (some (i393 : Int)) else (slices_IndexFunc_byte_byte.r1 k l0 xsi393 (i393 + 1))))
set_option maxHeartbeats 1000000 in
theorem slices_IndexFunc_byte_byte.r1_eq (k : Nat) (l0 : List Int)  (hs : l0.length < 4611686018427387904) : ∀ (m i393 : Nat), l0.length < m + i393 → i393 ≤ l0.length → slices_IndexFunc_byte_byte.l1 k l0 m (i393 : Int) = slices_IndexFunc_byte_byte.r1 k l0 (l0.drop i393) i393 := by
  intro m
  induction m with
  | zero => intro i393 h hi; omega
  | succ m ih =>
    intro i393 h hi
    by_cases hc : i393 < l0.length
    · have hw : wrap64 ((i393 : Int) + 1) = ((i393 + 1 : Nat) : Int) := by unfold wrap64; omega
      have hg : l0[(i393 : Int).toNat]? = some l0[i393] := by rw [Int.toNat_natCast]; exact List.getElem?_eq_getElem hc
      have ih2 := ih (i393 + 1) (by omega) (by omega)
      rw [List.drop_eq_getElem_cons hc, slices_IndexFunc_byte_byte.l1, slices_IndexFunc_byte_byte.r1, if_pos (by omega), if_pos (by omega), hg, Option.bind_some]
      simp only [hw, ih2]
    · rw [List.drop_of_length_le (by omega), slices_IndexFunc_byte_byte.l1, slices_IndexFunc_byte_byte.r1, if_neg (by omega)]
def slices_Index_string_string.r1 (k : Nat) (a1 : ByteArray) (l0 : List ByteArray) : List ByteArray → Nat → Option (Int)
  | [], i544 => (some (-1))
  | x570 :: xsi544, i544 => (if (a1 == x570) = true then (some (i544 : Int)) else (slices_Index_string_string.r1 k a1 l0 xsi544 (i544 + 1)))
set_option maxHeartbeats 1000000 in
theorem slices_Index_string_string.r1_eq (k : Nat) (a1 : ByteArray) (l0 : List ByteArray)  (hs : l0.length < 4611686018427387904) : ∀ (m i544 : Nat), l0.length < m + i544 → i544 ≤ l0.length → slices_Index_string_string.l1 k a1 l0 m (i544 : Int) = slices_Index_string_string.r1 k a1 l0 (l0.drop i544) i544 := by
  intro m
  induction m with
  | zero => intro i544 h hi; omega
  | succ m ih =>
    intro i544 h hi
    by_cases hc : i544 < l0.length
    · have hw : wrap64 ((i544 : Int) + 1) = ((i544 + 1 : Nat) : Int) := by unfold wrap64; omega
      have hg : l0[(i544 : Int).toNat]? = some l0[i544] := by rw [Int.toNat_natCast]; exact List.getElem?_eq_getElem hc
      have ih2 := ih (i544 + 1) (by omega) (by omega)
      rw [List.drop_eq_getElem_cons hc, slices_Index_string_string.l1, slices_Index_string_string.r1, if_pos (by omega), if_pos (by omega), hg, Option.bind_some]
      simp only [hw, ih2]
    · rw [List.drop_of_length_le (by omega), slices_Index_string_string.l1, slices_Index_string_string.r1, if_neg (by omega)]
def slices_IndexFunc_string_string.r1 (k : Nat) (l0 : List ByteArray) : List ByteArray → Nat → Option (Int)
  | [], i950 => (some (-1))
  | x979 :: xsi950, i950 => ((goods_Right_2.f k x979).bind fun t982 => (if t982 = true then (some (i950 : Int)) else (slices_IndexFunc_string_string.r1 k l0 xsi950 (i950 + 1))))
set_option maxHeartbeats 1000000 in
theorem slices_IndexFunc_string_string.r1_eq (k : Nat) (l0 : List ByteArray)  (hs : l0.length < 4611686018427387904) : ∀ (m i950 : Nat), l0.length < m + i950 → i950 ≤ l0.length → slices_IndexFunc_string_string.l1 k l0 m (i950 : Int) = slices_IndexFunc_string_string.r1 k l0 (l0.drop i950) i950 := by
  intro m
  induction m with
  | zero => intro i950 h hi; omega
  | succ m ih =>
    intro i950 h hi
    by_cases hc : i950 < l0.length
    · have hw : wrap64 ((i950 : Int) + 1) = ((i950 + 1 : Nat) : Int) := by unfold wrap64; omega
      have hg : l0[(i950 : Int).toNat]? = some l0[i950] := by rw [Int.toNat_natCast]; exact List.getElem?_eq_getElem hc
      have ih2 := ih (i950 + 1) (by omega) (by omega)
      rw [List.drop_eq_getElem_cons hc, slices_IndexFunc_string_string.l1, slices_IndexFunc_string_string.r1, if_pos (by omega), if_pos (by omega), hg, Option.bind_some]
      simp only [hw, ih2]
    · rw [List.drop_of_length_le (by omega), slices_IndexFunc_string_string.l1, slices_IndexFunc_string_string.r1, if_neg (by omega)]
-- goods_rising_string.l1: another shape
def cmp_Or_int.r1 (k : Nat) (l0 : List Int) : List Int → Option (Int)
  | [] => (some 0)
  | x1245 :: xsi1219 => (if x1245 = 0 then (cmp_Or_int.r1 k l0 xsi1219) else (some x1245))
set_option maxHeartbeats 1000000 in
theorem cmp_Or_int.r1_eq (k : Nat) (l0 : List Int)  (hs : l0.length < 4611686018427387904) : ∀ (m i1219 : Nat), l0.length < m + i1219 → i1219 ≤ l0.length → cmp_Or_int.l1 k l0 m (i1219 : Int) = cmp_Or_int.r1 k l0 (l0.drop i1219) := by
  intro m
  induction m with
  | zero => intro i1219 h hi; omega
  | succ m ih =>
    intro i1219 h hi
    by_cases hc : i1219 < l0.length
    · have hw : wrap64 ((i1219 : Int) + 1) = ((i1219 + 1 : Nat) : Int) := by unfold wrap64; omega
      have hg : l0[(i1219 : Int).toNat]? = some l0[i1219] := by rw [Int.toNat_natCast]; exact List.getElem?_eq_getElem hc
      have ih2 := ih (i1219 + 1) (by omega) (by omega)
      rw [List.drop_eq_getElem_cons hc, cmp_Or_int.l1, cmp_Or_int.r1, if_pos (by omega), if_pos (by omega), hg, Option.bind_some]
      simp only [hw, ih2]
    · rw [List.drop_of_length_le (by omega), cmp_Or_int.l1, cmp_Or_int.r1, if_neg (by omega)]
-- goods_rising_Sub.l1: another shape
def goods_Right.r1 (k : Nat) (l0_0 : List ByteArray) (l0_1 : List S93) : List S93 → Nat → Option (Bool)
  | [], i811 => ((slices_ContainsFunc_string_string.f k l0_0).bind fun t1436 => (if t1436 = true then (some false) else ((goods_rising_string.f k l0_0 8).bind fun t1444 => (if t1444 = true then ((goods_rising_Sub.f k l0_1 16).bind fun t1447 => (some t1447)) else (some false)))))
  | x1404 :: xsi811, i811 => (if (i811 : Int) ≤ (l0_1.length : Int) then ((slices_ContainsFunc_api_Sub_api_Sub.f k ((l0_1.take (i811 : Int).toNat).drop 0) x1404.f0 x1404.f1 x1404.f2 x1404.f3 x1404.f4).bind fun t1411 => (if t1411 = true then (some false) else ((goods_may.f k x1404.f0 x1404.f1 x1404.f2 x1404.f3 x1404.f4).bind fun t1424 => (if t1424 = true then ((slices_Contains_string_string.f k l0_0 x1404.f0).bind fun t1427 => (if t1427 = true then ((slices_Contains_string_string.f k l0_0 x1404.f1).bind fun t1430 => (if t1430 = true then (goods_Right.r1 k l0_0 l0_1 xsi811 (i811 + 1)) else (some false))) else (some false))) else (some false))))) else none)
set_option maxHeartbeats 1000000 in
theorem goods_Right.r1_eq (k : Nat) (l0_0 : List ByteArray) (l0_1 : List S93)  (hs : l0_1.length < 4611686018427387904) : ∀ (m i811 : Nat), l0_1.length < m + i811 → i811 ≤ l0_1.length → goods_Right.l1 k l0_0 l0_1 m (i811 : Int) = goods_Right.r1 k l0_0 l0_1 (l0_1.drop i811) i811 := by
  intro m
  induction m with
  | zero => intro i811 h hi; omega
  | succ m ih =>
    intro i811 h hi
    by_cases hc : i811 < l0_1.length
    · have hw : wrap64 ((i811 : Int) + 1) = ((i811 + 1 : Nat) : Int) := by unfold wrap64; omega
      have hg : l0_1[(i811 : Int).toNat]? = some l0_1[i811] := by rw [Int.toNat_natCast]; exact List.getElem?_eq_getElem hc
      have ih2 := ih (i811 + 1) (by omega) (by omega)
      rw [List.drop_eq_getElem_cons hc, goods_Right.l1, goods_Right.r1, if_pos (by omega), if_pos (by omega), hg, Option.bind_some]
      simp only [hw, ih2]
    · rw [List.drop_of_length_le (by omega), goods_Right.l1, goods_Right.r1, if_neg (by omega)]
def slices_IndexFunc_api_Wait_api_Wait.r1 (k : Nat) (l0 : List S23) : List S23 → Nat → Option (Int)
  | [], i1667 => (some (-1))
  | x1696 :: xsi1667, i1667 => ((queue_all_1.f x1696.f0 x1696.f1 x1696.f2).bind fun t1699 => (if t1699 = true then (some (i1667 : Int)) else (slices_IndexFunc_api_Wait_api_Wait.r1 k l0 xsi1667 (i1667 + 1))))
set_option maxHeartbeats 1000000 in
theorem slices_IndexFunc_api_Wait_api_Wait.r1_eq (k : Nat) (l0 : List S23)  (hs : l0.length < 4611686018427387904) : ∀ (m i1667 : Nat), l0.length < m + i1667 → i1667 ≤ l0.length → slices_IndexFunc_api_Wait_api_Wait.l1 k l0 m (i1667 : Int) = slices_IndexFunc_api_Wait_api_Wait.r1 k l0 (l0.drop i1667) i1667 := by
  intro m
  induction m with
  | zero => intro i1667 h hi; omega
  | succ m ih =>
    intro i1667 h hi
    by_cases hc : i1667 < l0.length
    · have hw : wrap64 ((i1667 : Int) + 1) = ((i1667 + 1 : Nat) : Int) := by unfold wrap64; omega
      have hg : l0[(i1667 : Int).toNat]? = some l0[i1667] := by rw [Int.toNat_natCast]; exact List.getElem?_eq_getElem hc
      have ih2 := ih (i1667 + 1) (by omega) (by omega)
      rw [List.drop_eq_getElem_cons hc, slices_IndexFunc_api_Wait_api_Wait.l1, slices_IndexFunc_api_Wait_api_Wait.r1, if_pos (by omega), if_pos (by omega), hg, Option.bind_some]
      simp only [hw, ih2]
    · rw [List.drop_of_length_le (by omega), slices_IndexFunc_api_Wait_api_Wait.l1, slices_IndexFunc_api_Wait_api_Wait.r1, if_neg (by omega)]
def queue_Right.r1 (k : Nat) (l0 : List S23) : List S23 → Nat → Option (Bool)
  | [], i1544 => ((queue_all.f k l0).bind fun t1731 => (some t1731))
  | x1725 :: xsi1544, i1544 => (if 0 ≤ IntKind.i64.wrap ((wrap64 ((i1544 : Int) - 1)).tdiv 2) then ((l0[(IntKind.i64.wrap ((wrap64 ((i1544 : Int) - 1)).tdiv 2)).toNat]?).bind fun x1727 => ((queue_Less.f k x1725.f0 x1725.f1 x1725.f2 x1727.f0 x1727.f1 x1727.f2).bind fun t1728 => (if t1728 = true then (some false) else (queue_Right.r1 k l0 xsi1544 (i1544 + 1))))) else none)
set_option maxHeartbeats 1000000 in
theorem queue_Right.r1_eq (k : Nat) (l0 : List S23)  (hs : l0.length < 4611686018427387904) : ∀ (m i1544 : Nat), l0.length < m + i1544 → i1544 ≤ l0.length → queue_Right.l1 k l0 m (i1544 : Int) = queue_Right.r1 k l0 (l0.drop i1544) i1544 := by
  intro m
  induction m with
  | zero => intro i1544 h hi; omega
  | succ m ih =>
    intro i1544 h hi
    by_cases hc : i1544 < l0.length
    · have hw : wrap64 ((i1544 : Int) + 1) = ((i1544 + 1 : Nat) : Int) := by unfold wrap64; omega
      have hg : l0[(i1544 : Int).toNat]? = some l0[i1544] := by rw [Int.toNat_natCast]; exact List.getElem?_eq_getElem hc
      have ih2 := ih (i1544 + 1) (by omega) (by omega)
      rw [List.drop_eq_getElem_cons hc, queue_Right.l1, queue_Right.r1, if_pos (by omega), if_pos (by omega), hg, Option.bind_some]
      simp only [hw, ih2]
    · rw [List.drop_of_length_le (by omega), queue_Right.l1, queue_Right.r1, if_neg (by omega)]
def slices_IndexFunc_api_Line_api_Line.r1 (k : Nat) (a1_90_0 : ByteArray) (a1_90_1 : Int) (a1_90_2 : Int) (a1_90_3 : Int) (l0 : List S25) : List S25 → Nat → Option (Int)
  | [], i1826 => (some (-1))
  | x1855 :: xsi1826, i1826 => ((waits_like_is.f a1_90_0 a1_90_1 a1_90_2 a1_90_3 x1855.f0 x1855.f1 x1855.f2 x1855.f3).bind fun t1858 => (if t1858 = true then (some (i1826 : Int)) else (slices_IndexFunc_api_Line_api_Line.r1 k a1_90_0 a1_90_1 a1_90_2 a1_90_3 l0 xsi1826 (i1826 + 1))))
set_option maxHeartbeats 1000000 in
theorem slices_IndexFunc_api_Line_api_Line.r1_eq (k : Nat) (a1_90_0 : ByteArray) (a1_90_1 : Int) (a1_90_2 : Int) (a1_90_3 : Int) (l0 : List S25)  (hs : l0.length < 4611686018427387904) : ∀ (m i1826 : Nat), l0.length < m + i1826 → i1826 ≤ l0.length → slices_IndexFunc_api_Line_api_Line.l1 k a1_90_0 a1_90_1 a1_90_2 a1_90_3 l0 m (i1826 : Int) = slices_IndexFunc_api_Line_api_Line.r1 k a1_90_0 a1_90_1 a1_90_2 a1_90_3 l0 (l0.drop i1826) i1826 := by
  intro m
  induction m with
  | zero => intro i1826 h hi; omega
  | succ m ih =>
    intro i1826 h hi
    by_cases hc : i1826 < l0.length
    · have hw : wrap64 ((i1826 : Int) + 1) = ((i1826 + 1 : Nat) : Int) := by unfold wrap64; omega
      have hg : l0[(i1826 : Int).toNat]? = some l0[i1826] := by rw [Int.toNat_natCast]; exact List.getElem?_eq_getElem hc
      have ih2 := ih (i1826 + 1) (by omega) (by omega)
      rw [List.drop_eq_getElem_cons hc, slices_IndexFunc_api_Line_api_Line.l1, slices_IndexFunc_api_Line_api_Line.r1, if_pos (by omega), if_pos (by omega), hg, Option.bind_some]
      simp only [hw, ih2]
    · rw [List.drop_of_length_le (by omega), slices_IndexFunc_api_Line_api_Line.l1, slices_IndexFunc_api_Line_api_Line.r1, if_neg (by omega)]
def waits_all.r1 (k : Nat) (l0 : List S25) : List S25 → Nat → Option (Bool)
  | [], i1972 => (some (decide ((l0.length : Int) ≤ 32)))
  | x2023 :: xsi1972, i1972 => ((waits_may.f k x2023.f0 x2023.f1 x2023.f2 x2023.f3).bind fun t2027 => (if t2027 = true then (if (i1972 : Int) ≤ (l0.length : Int) then ((slices_ContainsFunc_api_Line_api_Line.f k ((l0.take (i1972 : Int).toNat).drop 0) x2023.f0 x2023.f1 x2023.f2 x2023.f3).bind fun t2033 => (if t2033 = true then (some false) else (waits_all.r1 k l0 xsi1972 (i1972 + 1)))) else none) else (some false)))
set_option maxHeartbeats 1000000 in
theorem waits_all.r1_eq (k : Nat) (l0 : List S25)  (hs : l0.length < 4611686018427387904) : ∀ (m i1972 : Nat), l0.length < m + i1972 → i1972 ≤ l0.length → waits_all.l1 k l0 m (i1972 : Int) = waits_all.r1 k l0 (l0.drop i1972) i1972 := by
  intro m
  induction m with
  | zero => intro i1972 h hi; omega
  | succ m ih =>
    intro i1972 h hi
    by_cases hc : i1972 < l0.length
    · have hw : wrap64 ((i1972 : Int) + 1) = ((i1972 + 1 : Nat) : Int) := by unfold wrap64; omega
      have hg : l0[(i1972 : Int).toNat]? = some l0[i1972] := by rw [Int.toNat_natCast]; exact List.getElem?_eq_getElem hc
      have ih2 := ih (i1972 + 1) (by omega) (by omega)
      rw [List.drop_eq_getElem_cons hc, waits_all.l1, waits_all.r1, if_pos (by omega), if_pos (by omega), hg, Option.bind_some]
      simp only [hw, ih2]
    · rw [List.drop_of_length_le (by omega), waits_all.l1, waits_all.r1, if_neg (by omega)]
-- slices_IsSortedFunc_api_Line_api_Line.l1: no index
def slices_IndexFunc_api_Line_api_Line_s42.r1 (k : Nat) (a1_0_0 : Int) (l0 : List S25) : List S25 → Nat → Option (Int)
  | [], i2296 => (some (-1))
  | x2325 :: xsi2296, i2296 => ((waits_at_1.f x2325.f0 x2325.f1 x2325.f2 x2325.f3 a1_0_0).bind fun t2328 => (if t2328 = true then (some (i2296 : Int)) else (slices_IndexFunc_api_Line_api_Line_s42.r1 k a1_0_0 l0 xsi2296 (i2296 + 1))))
set_option maxHeartbeats 1000000 in
theorem slices_IndexFunc_api_Line_api_Line_s42.r1_eq (k : Nat) (a1_0_0 : Int) (l0 : List S25)  (hs : l0.length < 4611686018427387904) : ∀ (m i2296 : Nat), l0.length < m + i2296 → i2296 ≤ l0.length → slices_IndexFunc_api_Line_api_Line_s42.l1 k a1_0_0 l0 m (i2296 : Int) = slices_IndexFunc_api_Line_api_Line_s42.r1 k a1_0_0 l0 (l0.drop i2296) i2296 := by
  intro m
  induction m with
  | zero => intro i2296 h hi; omega
  | succ m ih =>
    intro i2296 h hi
    by_cases hc : i2296 < l0.length
    · have hw : wrap64 ((i2296 : Int) + 1) = ((i2296 + 1 : Nat) : Int) := by unfold wrap64; omega
      have hg : l0[(i2296 : Int).toNat]? = some l0[i2296] := by rw [Int.toNat_natCast]; exact List.getElem?_eq_getElem hc
      have ih2 := ih (i2296 + 1) (by omega) (by omega)
      rw [List.drop_eq_getElem_cons hc, slices_IndexFunc_api_Line_api_Line_s42.l1, slices_IndexFunc_api_Line_api_Line_s42.r1, if_pos (by omega), if_pos (by omega), hg, Option.bind_some]
      simp only [hw, ih2]
    · rw [List.drop_of_length_le (by omega), slices_IndexFunc_api_Line_api_Line_s42.l1, slices_IndexFunc_api_Line_api_Line_s42.r1, if_neg (by omega)]
def waits_Of.r1 (k : Nat) (a1 : ByteArray) (l0 : List S25) : List S25 → (List S23) → Option (List S23 × Int)
  | [], l2526 => (some (l2526, 0))
  | x2572 :: xsi2528, l2526 => (if (x2572.f0 == a1) = true then (if (l2526.length + ([(⟨x2572.f1, x2572.f2, x2572.f3⟩ : S23)] : List S23).length) * 24 ≤ 140737488355328 then (waits_Of.r1 k a1 l0 xsi2528 (l2526 ++ ([(⟨x2572.f1, x2572.f2, x2572.f3⟩ : S23)] : List S23))) else none) else (waits_Of.r1 k a1 l0 xsi2528 l2526))
set_option maxHeartbeats 1000000 in
theorem waits_Of.r1_eq (k : Nat) (a1 : ByteArray) (l0 : List S25)  (hs : l0.length < 4611686018427387904) : ∀ (m i2528 : Nat) (l2526 : List S23), l0.length < m + i2528 → i2528 ≤ l0.length → waits_Of.l1 k a1 l0 m l2526 (i2528 : Int) = waits_Of.r1 k a1 l0 (l0.drop i2528) l2526 := by
  intro m
  induction m with
  | zero => intro i2528 l2526 h hi; omega
  | succ m ih =>
    intro i2528 l2526 h hi
    by_cases hc : i2528 < l0.length
    · have hw : wrap64 ((i2528 : Int) + 1) = ((i2528 + 1 : Nat) : Int) := by unfold wrap64; omega
      have hg : l0[(i2528 : Int).toNat]? = some l0[i2528] := by rw [Int.toNat_natCast]; exact List.getElem?_eq_getElem hc
      have ih2 := fun l2526 => ih (i2528 + 1) l2526 (by omega) (by omega)
      rw [List.drop_eq_getElem_cons hc, waits_Of.l1, waits_Of.r1, if_pos (by omega), if_pos (by omega), hg, Option.bind_some]
      simp only [hw, ih2]
    · rw [List.drop_of_length_le (by omega), waits_Of.l1, waits_Of.r1, if_neg (by omega)]
def tarrylaw09_WaitsFair.r1 (k : Nat) (a1 : Int) (a2 : Int) (r2639 : List S23) (t2634 : Int) : List S23 → Nat → Bool → Option (Bool)
  | [], i3027, q3026 => (some q3026)
  | x3212 :: xsi3027, i3027, q3026 => (if (i3027 : Int) > 0 then (if 0 ≤ wrap64 ((i3027 : Int) - 1) then ((r2639[(wrap64 ((i3027 : Int) - 1)).toNat]?).bind fun x3226 => ((queue_Less.f k x3226.f0 x3226.f1 x3226.f2 x3212.f0 x3212.f1 x3212.f2).bind fun t3227 => (if t3227 = true then (if x3212.f2 = a1 then (tarrylaw09_WaitsFair.r1 k a1 a2 r2639 t2634 xsi3027 (i3027 + 1) true) else (if x3212.f0 > a2 then (if true = q3026 then (tarrylaw09_WaitsFair.r1 k a1 a2 r2639 t2634 xsi3027 (i3027 + 1) q3026) else none) else (if x3212.f0 = a2 then (if (decide (x3212.f1 > t2634)) = q3026 then (tarrylaw09_WaitsFair.r1 k a1 a2 r2639 t2634 xsi3027 (i3027 + 1) q3026) else none) else (if false = q3026 then (tarrylaw09_WaitsFair.r1 k a1 a2 r2639 t2634 xsi3027 (i3027 + 1) q3026) else none)))) else none))) else none) else (if x3212.f2 = a1 then (tarrylaw09_WaitsFair.r1 k a1 a2 r2639 t2634 xsi3027 (i3027 + 1) true) else (if x3212.f0 > a2 then (if true = q3026 then (tarrylaw09_WaitsFair.r1 k a1 a2 r2639 t2634 xsi3027 (i3027 + 1) q3026) else none) else (if x3212.f0 = a2 then (if (decide (x3212.f1 > t2634)) = q3026 then (tarrylaw09_WaitsFair.r1 k a1 a2 r2639 t2634 xsi3027 (i3027 + 1) q3026) else none) else (if false = q3026 then (tarrylaw09_WaitsFair.r1 k a1 a2 r2639 t2634 xsi3027 (i3027 + 1) q3026) else none)))))
set_option maxHeartbeats 1000000 in
theorem tarrylaw09_WaitsFair.r1_eq (k : Nat) (a1 : Int) (a2 : Int) (r2639 : List S23) (t2634 : Int)  (hs : r2639.length < 4611686018427387904) : ∀ (m i3027 : Nat) (q3026 : Bool), r2639.length < m + i3027 → i3027 ≤ r2639.length → tarrylaw09_WaitsFair.l1 k a1 a2 r2639 t2634 m q3026 (i3027 : Int) = tarrylaw09_WaitsFair.r1 k a1 a2 r2639 t2634 (r2639.drop i3027) i3027 q3026 := by
  intro m
  induction m with
  | zero => intro i3027 q3026 h hi; omega
  | succ m ih =>
    intro i3027 q3026 h hi
    by_cases hc : i3027 < r2639.length
    · have hw : wrap64 ((i3027 : Int) + 1) = ((i3027 + 1 : Nat) : Int) := by unfold wrap64; omega
      have hg : r2639[(i3027 : Int).toNat]? = some r2639[i3027] := by rw [Int.toNat_natCast]; exact List.getElem?_eq_getElem hc
      have ih2 := fun q3026 => ih (i3027 + 1) q3026 (by omega) (by omega)
      rw [List.drop_eq_getElem_cons hc, tarrylaw09_WaitsFair.l1, tarrylaw09_WaitsFair.r1, if_pos (by omega), if_pos (by omega), hg, Option.bind_some]
      simp only [hw, ih2]
    · rw [List.drop_of_length_le (by omega), tarrylaw09_WaitsFair.l1, tarrylaw09_WaitsFair.r1, if_neg (by omega)]

end Go.Proofs.Ytdofmkbffffbpaa.PWaitsFair
