/- Written by a program of this repo: what the program's functions do, each as a Lean function, shown of the loaded code; or a statement's row over that; no condition of its own. -/
import Derived.Test.YtibpoajlnloloaaPStockBackx0
namespace Go.Proofs.Ytibpoajlnloloaa.PStockBack
open Go Go.RowKit Go.Proofs.YtibpoajlnloloaaV
set_option linter.unusedVariables false
set_option linter.unusedSimpArgs false

def tarrylaw08_few.r1 (k : Nat) (l0 : List S32) : List S32 → (List S32) → Option (List S32)
  | [], l78 => (some l78)
  | x100 :: xsi80, l78 => (if 0 ≤ mn (x100.f0.size : Int) 18 then (if (mn (x100.f0.size : Int) 18) ≤ (x100.f0.size : Int) then (if (l78.length + ([(⟨x100.f0.extract 0 ((mn (x100.f0.size : Int) 18).toNat), x100.f1, x100.f2, x100.f3, x100.f4, x100.f5⟩ : S32)] : List S32).length) * 56 ≤ 140737488355328 then (tarrylaw08_few.r1 k l0 xsi80 (l78 ++ ([(⟨x100.f0.extract 0 ((mn (x100.f0.size : Int) 18).toNat), x100.f1, x100.f2, x100.f3, x100.f4, x100.f5⟩ : S32)] : List S32))) else none) else none) else none)
set_option maxHeartbeats 1000000 in
theorem tarrylaw08_few.r1_eq (k : Nat) (l0 : List S32)  (hs : ((l0.take ((mn (l0.length : Int) 10).toNat)).drop 0).length < 4611686018427387904) : ∀ (m i80 : Nat) (l78 : List S32), ((l0.take ((mn (l0.length : Int) 10).toNat)).drop 0).length < m + i80 → i80 ≤ ((l0.take ((mn (l0.length : Int) 10).toNat)).drop 0).length → tarrylaw08_few.l1 k l0 m l78 (i80 : Int) = tarrylaw08_few.r1 k l0 (((l0.take ((mn (l0.length : Int) 10).toNat)).drop 0).drop i80) l78 := by
  intro m
  induction m with
  | zero => intro i80 l78 h hi; omega
  | succ m ih =>
    intro i80 l78 h hi
    by_cases hc : i80 < ((l0.take ((mn (l0.length : Int) 10).toNat)).drop 0).length
    · have hw : wrap64 ((i80 : Int) + 1) = ((i80 + 1 : Nat) : Int) := by unfold wrap64; omega
      have hg : ((l0.take ((mn (l0.length : Int) 10).toNat)).drop 0)[(i80 : Int).toNat]? = some ((l0.take ((mn (l0.length : Int) 10).toNat)).drop 0)[i80] := by rw [Int.toNat_natCast]; exact List.getElem?_eq_getElem hc
      have ih2 := fun l78 => ih (i80 + 1) l78 (by omega) (by omega)
      rw [List.drop_eq_getElem_cons hc, tarrylaw08_few.l1, tarrylaw08_few.r1, if_pos (by omega), if_pos (by omega), hg, Option.bind_some]
      simp only [hw, ih2]
    · rw [List.drop_of_length_le (by omega), tarrylaw08_few.l1, tarrylaw08_few.r1, if_neg (by omega)]
def slices_IndexFunc_api_Sub_api_Sub.r1 (k : Nat) (a1_0_0 : ByteArray) (a1_0_1 : ByteArray) (a1_0_2 : Int) (a1_0_3 : Int) (a1_0_4 : Int) (l0 : List S71) : List S71 → Nat → Option (Int)
  | [], i219 => (some (-1))
  | x248 :: xsi219, i219 => ((goods_Right_1.f x248.f0 x248.f1 x248.f2 x248.f3 x248.f4 a1_0_0 a1_0_1 a1_0_2 a1_0_3 a1_0_4).bind fun t251 => (if t251 = true then (some (i219 : Int)) else (slices_IndexFunc_api_Sub_api_Sub.r1 k a1_0_0 a1_0_1 a1_0_2 a1_0_3 a1_0_4 l0 xsi219 (i219 + 1))))
set_option maxHeartbeats 1000000 in
theorem slices_IndexFunc_api_Sub_api_Sub.r1_eq (k : Nat) (a1_0_0 : ByteArray) (a1_0_1 : ByteArray) (a1_0_2 : Int) (a1_0_3 : Int) (a1_0_4 : Int) (l0 : List S71)  (hs : l0.length < 4611686018427387904) : ∀ (m i219 : Nat), l0.length < m + i219 → i219 ≤ l0.length → slices_IndexFunc_api_Sub_api_Sub.l1 k a1_0_0 a1_0_1 a1_0_2 a1_0_3 a1_0_4 l0 m (i219 : Int) = slices_IndexFunc_api_Sub_api_Sub.r1 k a1_0_0 a1_0_1 a1_0_2 a1_0_3 a1_0_4 l0 (l0.drop i219) i219 := by
  intro m
  induction m with
  | zero => intro i219 h hi; omega
  | succ m ih =>
    intro i219 h hi
    by_cases hc : i219 < l0.length
    · have hw : wrap64 ((i219 : Int) + 1) = ((i219 + 1 : Nat) : Int) := by unfold wrap64; omega
      have hg : l0[(i219 : Int).toNat]? = some l0[i219] := by rw [Int.toNat_natCast]; exact List.getElem?_eq_getElem hc
      have ih2 := ih (i219 + 1) (by omega) (by omega)
      rw [List.drop_eq_getElem_cons hc, slices_IndexFunc_api_Sub_api_Sub.l1, slices_IndexFunc_api_Sub_api_Sub.r1, if_pos (by omega), if_pos (by omega), hg, Option.bind_some]
      simp only [hw, ih2]
    · rw [List.drop_of_length_le (by omega), slices_IndexFunc_api_Sub_api_Sub.l1, slices_IndexFunc_api_Sub_api_Sub.r1, if_neg (by omega)]
def slices_IndexFunc_byte_byte.r1 (k : Nat) (l0 : List Int) : List Int → Nat → Option (Int)
  | [], i355 => (some (-1))
  | x384 :: xsi355, i355 => ((goods_name_1.f x384).bind fun t387 => (if t387 = true then (some (i355 : Int)) else (slices_IndexFunc_byte_byte.r1 k l0 xsi355 (i355 + 1))))
set_option maxHeartbeats 1000000 in
theorem slices_IndexFunc_byte_byte.r1_eq (k : Nat) (l0 : List Int)  (hs : l0.length < 4611686018427387904) : ∀ (m i355 : Nat), l0.length < m + i355 → i355 ≤ l0.length → slices_IndexFunc_byte_byte.l1 k l0 m (i355 : Int) = slices_IndexFunc_byte_byte.r1 k l0 (l0.drop i355) i355 := by
  intro m
  induction m with
  | zero => intro i355 h hi; omega
  | succ m ih =>
    intro i355 h hi
    by_cases hc : i355 < l0.length
    · have hw : wrap64 ((i355 : Int) + 1) = ((i355 + 1 : Nat) : Int) := by unfold wrap64; omega
      have hg : l0[(i355 : Int).toNat]? = some l0[i355] := by rw [Int.toNat_natCast]; exact List.getElem?_eq_getElem hc
      have ih2 := ih (i355 + 1) (by omega) (by omega)
      rw [List.drop_eq_getElem_cons hc, slices_IndexFunc_byte_byte.l1, slices_IndexFunc_byte_byte.r1, if_pos (by omega), if_pos (by omega), hg, Option.bind_some]
      simp only [hw, ih2]
    · rw [List.drop_of_length_le (by omega), slices_IndexFunc_byte_byte.l1, slices_IndexFunc_byte_byte.r1, if_neg (by omega)]
def slices_Index_string_string.r1 (k : Nat) (a1 : ByteArray) (l0 : List ByteArray) : List ByteArray → Nat → Option (Int)
  | [], i506 => (some (-1))
  | x532 :: xsi506, i506 => (if (a1 == x532) = true then (some (i506 : Int)) else (slices_Index_string_string.r1 k a1 l0 xsi506 (i506 + 1)))
set_option maxHeartbeats 1000000 in
theorem slices_Index_string_string.r1_eq (k : Nat) (a1 : ByteArray) (l0 : List ByteArray)  (hs : l0.length < 4611686018427387904) : ∀ (m i506 : Nat), l0.length < m + i506 → i506 ≤ l0.length → slices_Index_string_string.l1 k a1 l0 m (i506 : Int) = slices_Index_string_string.r1 k a1 l0 (l0.drop i506) i506 := by
  intro m
  induction m with
  | zero => intro i506 h hi; omega
  | succ m ih =>
    intro i506 h hi
    by_cases hc : i506 < l0.length
    · have hw : wrap64 ((i506 : Int) + 1) = ((i506 + 1 : Nat) : Int) := by unfold wrap64; omega
      have hg : l0[(i506 : Int).toNat]? = some l0[i506] := by rw [Int.toNat_natCast]; exact List.getElem?_eq_getElem hc
      have ih2 := ih (i506 + 1) (by omega) (by omega)
      rw [List.drop_eq_getElem_cons hc, slices_Index_string_string.l1, slices_Index_string_string.r1, if_pos (by omega), if_pos (by omega), hg, Option.bind_some]
      simp only [hw, ih2]
    · rw [List.drop_of_length_le (by omega), slices_Index_string_string.l1, slices_Index_string_string.r1, if_neg (by omega)]
def slices_IndexFunc_string_string.r1 (k : Nat) (l0 : List ByteArray) : List ByteArray → Nat → Option (Int)
  | [], i912 => (some (-1))
  | x941 :: xsi912, i912 => ((goods_Right_2.f k x941).bind fun t944 => (if t944 = true then (some (i912 : Int)) else (slices_IndexFunc_string_string.r1 k l0 xsi912 (i912 + 1))))
set_option maxHeartbeats 1000000 in
theorem slices_IndexFunc_string_string.r1_eq (k : Nat) (l0 : List ByteArray)  (hs : l0.length < 4611686018427387904) : ∀ (m i912 : Nat), l0.length < m + i912 → i912 ≤ l0.length → slices_IndexFunc_string_string.l1 k l0 m (i912 : Int) = slices_IndexFunc_string_string.r1 k l0 (l0.drop i912) i912 := by
  intro m
  induction m with
  | zero => intro i912 h hi; omega
  | succ m ih =>
    intro i912 h hi
    by_cases hc : i912 < l0.length
    · have hw : wrap64 ((i912 : Int) + 1) = ((i912 + 1 : Nat) : Int) := by unfold wrap64; omega
      have hg : l0[(i912 : Int).toNat]? = some l0[i912] := by rw [Int.toNat_natCast]; exact List.getElem?_eq_getElem hc
      have ih2 := ih (i912 + 1) (by omega) (by omega)
      rw [List.drop_eq_getElem_cons hc, slices_IndexFunc_string_string.l1, slices_IndexFunc_string_string.r1, if_pos (by omega), if_pos (by omega), hg, Option.bind_some]
      simp only [hw, ih2]
    · rw [List.drop_of_length_le (by omega), slices_IndexFunc_string_string.l1, slices_IndexFunc_string_string.r1, if_neg (by omega)]
-- goods_rising_string.l1: another shape
def cmp_Or_int.r1 (k : Nat) (l0 : List Int) : List Int → Option (Int)
  | [] => (some 0)
  | x1207 :: xsi1181 => (if x1207 = 0 then (cmp_Or_int.r1 k l0 xsi1181) else (some x1207))
set_option maxHeartbeats 1000000 in
theorem cmp_Or_int.r1_eq (k : Nat) (l0 : List Int)  (hs : l0.length < 4611686018427387904) : ∀ (m i1181 : Nat), l0.length < m + i1181 → i1181 ≤ l0.length → cmp_Or_int.l1 k l0 m (i1181 : Int) = cmp_Or_int.r1 k l0 (l0.drop i1181) := by
  intro m
  induction m with
  | zero => intro i1181 h hi; omega
  | succ m ih =>
    intro i1181 h hi
    by_cases hc : i1181 < l0.length
    · have hw : wrap64 ((i1181 : Int) + 1) = ((i1181 + 1 : Nat) : Int) := by unfold wrap64; omega
      have hg : l0[(i1181 : Int).toNat]? = some l0[i1181] := by rw [Int.toNat_natCast]; exact List.getElem?_eq_getElem hc
      have ih2 := ih (i1181 + 1) (by omega) (by omega)
      rw [List.drop_eq_getElem_cons hc, cmp_Or_int.l1, cmp_Or_int.r1, if_pos (by omega), if_pos (by omega), hg, Option.bind_some]
      simp only [hw, ih2]
    · rw [List.drop_of_length_le (by omega), cmp_Or_int.l1, cmp_Or_int.r1, if_neg (by omega)]
-- goods_rising_Sub.l1: another shape
def goods_Right.r1 (k : Nat) (l0_0 : List ByteArray) (l0_1 : List S71) : List S71 → Nat → Option (Bool)
  | [], i773 => ((slices_ContainsFunc_string_string.f k l0_0).bind fun t1398 => (if t1398 = true then (some false) else ((goods_rising_string.f k l0_0 8).bind fun t1406 => (if t1406 = true then ((goods_rising_Sub.f k l0_1 16).bind fun t1409 => (some t1409)) else (some false)))))
  | x1366 :: xsi773, i773 => (if (i773 : Int) ≤ (l0_1.length : Int) then ((slices_ContainsFunc_api_Sub_api_Sub.f k ((l0_1.take (i773 : Int).toNat).drop 0) x1366.f0 x1366.f1 x1366.f2 x1366.f3 x1366.f4).bind fun t1373 => (if t1373 = true then (some false) else ((goods_may.f k x1366.f0 x1366.f1 x1366.f2 x1366.f3 x1366.f4).bind fun t1386 => (if t1386 = true then ((slices_Contains_string_string.f k l0_0 x1366.f0).bind fun t1389 => (if t1389 = true then ((slices_Contains_string_string.f k l0_0 x1366.f1).bind fun t1392 => (if t1392 = true then (goods_Right.r1 k l0_0 l0_1 xsi773 (i773 + 1)) else (some false))) else (some false))) else (some false))))) else none)
set_option maxHeartbeats 1000000 in
theorem goods_Right.r1_eq (k : Nat) (l0_0 : List ByteArray) (l0_1 : List S71)  (hs : l0_1.length < 4611686018427387904) : ∀ (m i773 : Nat), l0_1.length < m + i773 → i773 ≤ l0_1.length → goods_Right.l1 k l0_0 l0_1 m (i773 : Int) = goods_Right.r1 k l0_0 l0_1 (l0_1.drop i773) i773 := by
  intro m
  induction m with
  | zero => intro i773 h hi; omega
  | succ m ih =>
    intro i773 h hi
    by_cases hc : i773 < l0_1.length
    · have hw : wrap64 ((i773 : Int) + 1) = ((i773 + 1 : Nat) : Int) := by unfold wrap64; omega
      have hg : l0_1[(i773 : Int).toNat]? = some l0_1[i773] := by rw [Int.toNat_natCast]; exact List.getElem?_eq_getElem hc
      have ih2 := ih (i773 + 1) (by omega) (by omega)
      rw [List.drop_eq_getElem_cons hc, goods_Right.l1, goods_Right.r1, if_pos (by omega), if_pos (by omega), hg, Option.bind_some]
      simp only [hw, ih2]
    · rw [List.drop_of_length_le (by omega), goods_Right.l1, goods_Right.r1, if_neg (by omega)]
def slices_IndexFunc_int_int.r1 (k : Nat) (l0 : List Int) : List Int → Nat → Option (Int)
  | [], i1500 => (some (-1))
  | x1529 :: xsi1500, i1500 => ((stock_may_1.f x1529).bind fun t1532 => (if t1532 = true then (some (i1500 : Int)) else (slices_IndexFunc_int_int.r1 k l0 xsi1500 (i1500 + 1))))
set_option maxHeartbeats 1000000 in
theorem slices_IndexFunc_int_int.r1_eq (k : Nat) (l0 : List Int)  (hs : l0.length < 4611686018427387904) : ∀ (m i1500 : Nat), l0.length < m + i1500 → i1500 ≤ l0.length → slices_IndexFunc_int_int.l1 k l0 m (i1500 : Int) = slices_IndexFunc_int_int.r1 k l0 (l0.drop i1500) i1500 := by
  intro m
  induction m with
  | zero => intro i1500 h hi; omega
  | succ m ih =>
    intro i1500 h hi
    by_cases hc : i1500 < l0.length
    · have hw : wrap64 ((i1500 : Int) + 1) = ((i1500 + 1 : Nat) : Int) := by unfold wrap64; omega
      have hg : l0[(i1500 : Int).toNat]? = some l0[i1500] := by rw [Int.toNat_natCast]; exact List.getElem?_eq_getElem hc
      have ih2 := ih (i1500 + 1) (by omega) (by omega)
      rw [List.drop_eq_getElem_cons hc, slices_IndexFunc_int_int.l1, slices_IndexFunc_int_int.r1, if_pos (by omega), if_pos (by omega), hg, Option.bind_some]
      simp only [hw, ih2]
    · rw [List.drop_of_length_le (by omega), slices_IndexFunc_int_int.l1, slices_IndexFunc_int_int.r1, if_neg (by omega)]
def stock_Right.r1 (k : Nat) (l0 : List S32) : List S32 → Nat → Option (Bool)
  | [], i1639 => (some (decide ((l0.length : Int) ≤ 8)))
  | x1690 :: xsi1639, i1639 => ((stock_may.f k x1690.f0 x1690.f1 x1690.f2 x1690.f3 x1690.f4 x1690.f5).bind fun t1694 => (if t1694 = true then (if (i1639 : Int) > 0 then (if 0 ≤ wrap64 ((i1639 : Int) - 1) then ((l0[(wrap64 ((i1639 : Int) - 1)).toNat]?).bind fun x1700 => (if (!Op.bytesLess x1700.f0.toList x1690.f0.toList) = true then (some false) else (stock_Right.r1 k l0 xsi1639 (i1639 + 1)))) else none) else (stock_Right.r1 k l0 xsi1639 (i1639 + 1))) else (some false)))
set_option maxHeartbeats 1000000 in
theorem stock_Right.r1_eq (k : Nat) (l0 : List S32)  (hs : l0.length < 4611686018427387904) : ∀ (m i1639 : Nat), l0.length < m + i1639 → i1639 ≤ l0.length → stock_Right.l1 k l0 m (i1639 : Int) = stock_Right.r1 k l0 (l0.drop i1639) i1639 := by
  intro m
  induction m with
  | zero => intro i1639 h hi; omega
  | succ m ih =>
    intro i1639 h hi
    by_cases hc : i1639 < l0.length
    · have hw : wrap64 ((i1639 : Int) + 1) = ((i1639 + 1 : Nat) : Int) := by unfold wrap64; omega
      have hg : l0[(i1639 : Int).toNat]? = some l0[i1639] := by rw [Int.toNat_natCast]; exact List.getElem?_eq_getElem hc
      have ih2 := ih (i1639 + 1) (by omega) (by omega)
      rw [List.drop_eq_getElem_cons hc, stock_Right.l1, stock_Right.r1, if_pos (by omega), if_pos (by omega), hg, Option.bind_some]
      simp only [hw, ih2]
    · rw [List.drop_of_length_le (by omega), stock_Right.l1, stock_Right.r1, if_neg (by omega)]
-- slices_BinarySearchFunc_api_Row_api_Row_string.l1: another shape
def tarryref08_Same.r1 (k : Nat) (l0 : List S32) (l1 : List S32) : List S32 → Nat → Option (Bool)
  | [], i2310 => (some true)
  | x2333 :: xsi2310, i2310 => ((l1[(i2310 : Int).toNat]?).bind fun x2334 => (if (((x2333.f0 == x2334.f0) && ((x2333.f1 == x2334.f1) && ((x2333.f2 == x2334.f2) && ((x2333.f3 == x2334.f3) && ((x2333.f4 == x2334.f4) && (x2333.f5 == x2334.f5))))))) = true then (tarryref08_Same.r1 k l0 l1 xsi2310 (i2310 + 1)) else (some false)))
set_option maxHeartbeats 1000000 in
theorem tarryref08_Same.r1_eq (k : Nat) (l0 : List S32) (l1 : List S32)  (hs : l0.length < 4611686018427387904) : ∀ (m i2310 : Nat), l0.length < m + i2310 → i2310 ≤ l0.length → tarryref08_Same.l1 k l0 l1 m (i2310 : Int) = tarryref08_Same.r1 k l0 l1 (l0.drop i2310) i2310 := by
  intro m
  induction m with
  | zero => intro i2310 h hi; omega
  | succ m ih =>
    intro i2310 h hi
    by_cases hc : i2310 < l0.length
    · have hw : wrap64 ((i2310 : Int) + 1) = ((i2310 + 1 : Nat) : Int) := by unfold wrap64; omega
      have hg : l0[(i2310 : Int).toNat]? = some l0[i2310] := by rw [Int.toNat_natCast]; exact List.getElem?_eq_getElem hc
      have ih2 := ih (i2310 + 1) (by omega) (by omega)
      rw [List.drop_eq_getElem_cons hc, tarryref08_Same.l1, tarryref08_Same.r1, if_pos (by omega), if_pos (by omega), hg, Option.bind_some]
      simp only [hw, ih2]
    · rw [List.drop_of_length_le (by omega), tarryref08_Same.l1, tarryref08_Same.r1, if_neg (by omega)]
def tarrylaw08_StockBack.r1 (k : Nat) (a1 : ByteArray) (r111 : List S32) (r1885 : List S32) (r2236 : List S32) : List S32 → Nat → Option (Bool)
  | [], i2524 => (some true)
  | x2571 :: xsi2524, i2524 => (if (x2571.f0 == (a1.extract 0 ((mn (a1.size : Int) 18).toNat))) = true then (tarrylaw08_StockBack.r1 k a1 r111 r1885 r2236 xsi2524 (i2524 + 1)) else ((r1885[(i2524 : Int).toNat]?).bind fun x2577 => (if (((x2577.f0 == x2571.f0) && ((x2577.f1 == x2571.f1) && ((x2577.f2 == x2571.f2) && ((x2577.f3 == x2571.f3) && ((x2577.f4 == x2571.f4) && (x2577.f5 == x2571.f5))))))) = true then ((r2236[(i2524 : Int).toNat]?).bind fun x2580 => (if (((x2580.f0 == x2571.f0) && ((x2580.f1 == x2571.f1) && ((x2580.f2 == x2571.f2) && ((x2580.f3 == x2571.f3) && ((x2580.f4 == x2571.f4) && (x2580.f5 == x2571.f5))))))) = true then (tarrylaw08_StockBack.r1 k a1 r111 r1885 r2236 xsi2524 (i2524 + 1)) else none)) else none)))
set_option maxHeartbeats 1000000 in
theorem tarrylaw08_StockBack.r1_eq (k : Nat) (a1 : ByteArray) (r111 : List S32) (r1885 : List S32) (r2236 : List S32)  (hs : r111.length < 4611686018427387904) : ∀ (m i2524 : Nat), r111.length < m + i2524 → i2524 ≤ r111.length → tarrylaw08_StockBack.l1 k a1 r111 r1885 r2236 m (i2524 : Int) = tarrylaw08_StockBack.r1 k a1 r111 r1885 r2236 (r111.drop i2524) i2524 := by
  intro m
  induction m with
  | zero => intro i2524 h hi; omega
  | succ m ih =>
    intro i2524 h hi
    by_cases hc : i2524 < r111.length
    · have hw : wrap64 ((i2524 : Int) + 1) = ((i2524 + 1 : Nat) : Int) := by unfold wrap64; omega
      have hg : r111[(i2524 : Int).toNat]? = some r111[i2524] := by rw [Int.toNat_natCast]; exact List.getElem?_eq_getElem hc
      have ih2 := ih (i2524 + 1) (by omega) (by omega)
      rw [List.drop_eq_getElem_cons hc, tarrylaw08_StockBack.l1, tarrylaw08_StockBack.r1, if_pos (by omega), if_pos (by omega), hg, Option.bind_some]
      simp only [hw, ih2]
    · rw [List.drop_of_length_le (by omega), tarrylaw08_StockBack.l1, tarrylaw08_StockBack.r1, if_neg (by omega)]

end Go.Proofs.Ytibpoajlnloloaa.PStockBack
