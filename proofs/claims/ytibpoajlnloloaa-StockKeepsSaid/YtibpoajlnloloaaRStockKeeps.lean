/- Written by a program of this repo: what the program's functions do, each as a Lean function, shown of the loaded code; or a statement's row over that; no condition of its own. -/
import Derived.Test.YtibpoajlnloloaaPStockKeepsx0
namespace Go.Proofs.Ytibpoajlnloloaa.PStockKeeps
open Go Go.RowKit Go.Proofs.YtibpoajlnloloaaV
set_option linter.unusedVariables false
set_option linter.unusedSimpArgs false

def slices_IndexFunc_api_Sub_api_Sub.r1 (k : Nat) (a1_0_0 : ByteArray) (a1_0_1 : ByteArray) (a1_0_2 : Int) (a1_0_3 : Int) (a1_0_4 : Int) (l0 : List S71) : List S71 → Nat → Option (Int)
  | [], i119 => (some (-1))
  | x148 :: xsi119, i119 => ((goods_Right_1.f x148.f0 x148.f1 x148.f2 x148.f3 x148.f4 a1_0_0 a1_0_1 a1_0_2 a1_0_3 a1_0_4).bind fun t151 => (if t151 = true then (some (i119 : Int)) else (slices_IndexFunc_api_Sub_api_Sub.r1 k a1_0_0 a1_0_1 a1_0_2 a1_0_3 a1_0_4 l0 xsi119 (i119 + 1))))
set_option maxHeartbeats 1000000 in
theorem slices_IndexFunc_api_Sub_api_Sub.r1_eq (k : Nat) (a1_0_0 : ByteArray) (a1_0_1 : ByteArray) (a1_0_2 : Int) (a1_0_3 : Int) (a1_0_4 : Int) (l0 : List S71)  (hs : l0.length < 4611686018427387904) : ∀ (m i119 : Nat), l0.length < m + i119 → i119 ≤ l0.length → slices_IndexFunc_api_Sub_api_Sub.l1 k a1_0_0 a1_0_1 a1_0_2 a1_0_3 a1_0_4 l0 m (i119 : Int) = slices_IndexFunc_api_Sub_api_Sub.r1 k a1_0_0 a1_0_1 a1_0_2 a1_0_3 a1_0_4 l0 (l0.drop i119) i119 := by
  intro m
  induction m with
  | zero => intro i119 h hi; omega
  | succ m ih =>
    intro i119 h hi
    by_cases hc : i119 < l0.length
    · have hw : wrap64 ((i119 : Int) + 1) = ((i119 + 1 : Nat) : Int) := by unfold wrap64; omega
      have hg : l0[(i119 : Int).toNat]? = some l0[i119] := by rw [Int.toNat_natCast]; exact List.getElem?_eq_getElem hc
      have ih2 := ih (i119 + 1) (by omega) (by omega)
      rw [List.drop_eq_getElem_cons hc, slices_IndexFunc_api_Sub_api_Sub.l1, slices_IndexFunc_api_Sub_api_Sub.r1, if_pos (by omega), if_pos (by omega), hg, Option.bind_some]
      simp only [hw, ih2]
    · rw [List.drop_of_length_le (by omega), slices_IndexFunc_api_Sub_api_Sub.l1, slices_IndexFunc_api_Sub_api_Sub.r1, if_neg (by omega)]
def slices_IndexFunc_byte_byte.r1 (k : Nat) (l0 : List Int) : List Int → Nat → Option (Int)
  | [], i255 => (some (-1))
  | x284 :: xsi255, i255 => ((goods_name_1.f x284).bind fun t287 => (if t287 = true then (some (i255 : Int)) else (slices_IndexFunc_byte_byte.r1 k l0 xsi255 (i255 + 1))))
set_option maxHeartbeats 1000000 in
theorem slices_IndexFunc_byte_byte.r1_eq (k : Nat) (l0 : List Int)  (hs : l0.length < 4611686018427387904) : ∀ (m i255 : Nat), l0.length < m + i255 → i255 ≤ l0.length → slices_IndexFunc_byte_byte.l1 k l0 m (i255 : Int) = slices_IndexFunc_byte_byte.r1 k l0 (l0.drop i255) i255 := by
  intro m
  induction m with
  | zero => intro i255 h hi; omega
  | succ m ih =>
    intro i255 h hi
    by_cases hc : i255 < l0.length
    · have hw : wrap64 ((i255 : Int) + 1) = ((i255 + 1 : Nat) : Int) := by unfold wrap64; omega
      have hg : l0[(i255 : Int).toNat]? = some l0[i255] := by rw [Int.toNat_natCast]; exact List.getElem?_eq_getElem hc
      have ih2 := ih (i255 + 1) (by omega) (by omega)
      rw [List.drop_eq_getElem_cons hc, slices_IndexFunc_byte_byte.l1, slices_IndexFunc_byte_byte.r1, if_pos (by omega), if_pos (by omega), hg, Option.bind_some]
      simp only [hw, ih2]
    · rw [List.drop_of_length_le (by omega), slices_IndexFunc_byte_byte.l1, slices_IndexFunc_byte_byte.r1, if_neg (by omega)]
def slices_Index_string_string.r1 (k : Nat) (a1 : ByteArray) (l0 : List ByteArray) : List ByteArray → Nat → Option (Int)
  | [], i406 => (some (-1))
  | x432 :: xsi406, i406 => (if (a1 == x432) = true then (some (i406 : Int)) else (slices_Index_string_string.r1 k a1 l0 xsi406 (i406 + 1)))
set_option maxHeartbeats 1000000 in
theorem slices_Index_string_string.r1_eq (k : Nat) (a1 : ByteArray) (l0 : List ByteArray)  (hs : l0.length < 4611686018427387904) : ∀ (m i406 : Nat), l0.length < m + i406 → i406 ≤ l0.length → slices_Index_string_string.l1 k a1 l0 m (i406 : Int) = slices_Index_string_string.r1 k a1 l0 (l0.drop i406) i406 := by
  intro m
  induction m with
  | zero => intro i406 h hi; omega
  | succ m ih =>
    intro i406 h hi
    by_cases hc : i406 < l0.length
    · have hw : wrap64 ((i406 : Int) + 1) = ((i406 + 1 : Nat) : Int) := by unfold wrap64; omega
      have hg : l0[(i406 : Int).toNat]? = some l0[i406] := by rw [Int.toNat_natCast]; exact List.getElem?_eq_getElem hc
      have ih2 := ih (i406 + 1) (by omega) (by omega)
      rw [List.drop_eq_getElem_cons hc, slices_Index_string_string.l1, slices_Index_string_string.r1, if_pos (by omega), if_pos (by omega), hg, Option.bind_some]
      simp only [hw, ih2]
    · rw [List.drop_of_length_le (by omega), slices_Index_string_string.l1, slices_Index_string_string.r1, if_neg (by omega)]
def slices_IndexFunc_string_string.r1 (k : Nat) (l0 : List ByteArray) : List ByteArray → Nat → Option (Int)
  | [], i812 => (some (-1))
  | x841 :: xsi812, i812 => ((goods_Right_2.f k x841).bind fun t844 => (if t844 = true then (some (i812 : Int)) else (slices_IndexFunc_string_string.r1 k l0 xsi812 (i812 + 1))))
set_option maxHeartbeats 1000000 in
theorem slices_IndexFunc_string_string.r1_eq (k : Nat) (l0 : List ByteArray)  (hs : l0.length < 4611686018427387904) : ∀ (m i812 : Nat), l0.length < m + i812 → i812 ≤ l0.length → slices_IndexFunc_string_string.l1 k l0 m (i812 : Int) = slices_IndexFunc_string_string.r1 k l0 (l0.drop i812) i812 := by
  intro m
  induction m with
  | zero => intro i812 h hi; omega
  | succ m ih =>
    intro i812 h hi
    by_cases hc : i812 < l0.length
    · have hw : wrap64 ((i812 : Int) + 1) = ((i812 + 1 : Nat) : Int) := by unfold wrap64; omega
      have hg : l0[(i812 : Int).toNat]? = some l0[i812] := by rw [Int.toNat_natCast]; exact List.getElem?_eq_getElem hc
      have ih2 := ih (i812 + 1) (by omega) (by omega)
      rw [List.drop_eq_getElem_cons hc, slices_IndexFunc_string_string.l1, slices_IndexFunc_string_string.r1, if_pos (by omega), if_pos (by omega), hg, Option.bind_some]
      simp only [hw, ih2]
    · rw [List.drop_of_length_le (by omega), slices_IndexFunc_string_string.l1, slices_IndexFunc_string_string.r1, if_neg (by omega)]
-- goods_rising_string.l1: another shape
def cmp_Or_int.r1 (k : Nat) (l0 : List Int) : List Int → Option (Int)
  | [] => (some 0)
  | x1107 :: xsi1081 => (if x1107 = 0 then (cmp_Or_int.r1 k l0 xsi1081) else (some x1107))
set_option maxHeartbeats 1000000 in
theorem cmp_Or_int.r1_eq (k : Nat) (l0 : List Int)  (hs : l0.length < 4611686018427387904) : ∀ (m i1081 : Nat), l0.length < m + i1081 → i1081 ≤ l0.length → cmp_Or_int.l1 k l0 m (i1081 : Int) = cmp_Or_int.r1 k l0 (l0.drop i1081) := by
  intro m
  induction m with
  | zero => intro i1081 h hi; omega
  | succ m ih =>
    intro i1081 h hi
    by_cases hc : i1081 < l0.length
    · have hw : wrap64 ((i1081 : Int) + 1) = ((i1081 + 1 : Nat) : Int) := by unfold wrap64; omega
      have hg : l0[(i1081 : Int).toNat]? = some l0[i1081] := by rw [Int.toNat_natCast]; exact List.getElem?_eq_getElem hc
      have ih2 := ih (i1081 + 1) (by omega) (by omega)
      rw [List.drop_eq_getElem_cons hc, cmp_Or_int.l1, cmp_Or_int.r1, if_pos (by omega), if_pos (by omega), hg, Option.bind_some]
      simp only [hw, ih2]
    · rw [List.drop_of_length_le (by omega), cmp_Or_int.l1, cmp_Or_int.r1, if_neg (by omega)]
-- goods_rising_Sub.l1: another shape
def goods_Right.r1 (k : Nat) (l0_0 : List ByteArray) (l0_1 : List S71) : List S71 → Nat → Option (Bool)
  | [], i673 => ((slices_ContainsFunc_string_string.f k l0_0).bind fun t1298 => (if t1298 = true then (some false) else ((goods_rising_string.f k l0_0 8).bind fun t1306 => (if t1306 = true then ((goods_rising_Sub.f k l0_1 16).bind fun t1309 => (some t1309)) else (some false)))))
  | x1266 :: xsi673, i673 => (if (i673 : Int) ≤ (l0_1.length : Int) then ((slices_ContainsFunc_api_Sub_api_Sub.f k ((l0_1.take (i673 : Int).toNat).drop 0) x1266.f0 x1266.f1 x1266.f2 x1266.f3 x1266.f4).bind fun t1273 => (if t1273 = true then (some false) else ((goods_may.f k x1266.f0 x1266.f1 x1266.f2 x1266.f3 x1266.f4).bind fun t1286 => (if t1286 = true then ((slices_Contains_string_string.f k l0_0 x1266.f0).bind fun t1289 => (if t1289 = true then ((slices_Contains_string_string.f k l0_0 x1266.f1).bind fun t1292 => (if t1292 = true then (goods_Right.r1 k l0_0 l0_1 xsi673 (i673 + 1)) else (some false))) else (some false))) else (some false))))) else none)
set_option maxHeartbeats 1000000 in
theorem goods_Right.r1_eq (k : Nat) (l0_0 : List ByteArray) (l0_1 : List S71)  (hs : l0_1.length < 4611686018427387904) : ∀ (m i673 : Nat), l0_1.length < m + i673 → i673 ≤ l0_1.length → goods_Right.l1 k l0_0 l0_1 m (i673 : Int) = goods_Right.r1 k l0_0 l0_1 (l0_1.drop i673) i673 := by
  intro m
  induction m with
  | zero => intro i673 h hi; omega
  | succ m ih =>
    intro i673 h hi
    by_cases hc : i673 < l0_1.length
    · have hw : wrap64 ((i673 : Int) + 1) = ((i673 + 1 : Nat) : Int) := by unfold wrap64; omega
      have hg : l0_1[(i673 : Int).toNat]? = some l0_1[i673] := by rw [Int.toNat_natCast]; exact List.getElem?_eq_getElem hc
      have ih2 := ih (i673 + 1) (by omega) (by omega)
      rw [List.drop_eq_getElem_cons hc, goods_Right.l1, goods_Right.r1, if_pos (by omega), if_pos (by omega), hg, Option.bind_some]
      simp only [hw, ih2]
    · rw [List.drop_of_length_le (by omega), goods_Right.l1, goods_Right.r1, if_neg (by omega)]
def slices_IndexFunc_int_int.r1 (k : Nat) (l0 : List Int) : List Int → Nat → Option (Int)
  | [], i1400 => (some (-1))
  | x1429 :: xsi1400, i1400 => ((stock_may_1.f x1429).bind fun t1432 => (if t1432 = true then (some (i1400 : Int)) else (slices_IndexFunc_int_int.r1 k l0 xsi1400 (i1400 + 1))))
set_option maxHeartbeats 1000000 in
theorem slices_IndexFunc_int_int.r1_eq (k : Nat) (l0 : List Int)  (hs : l0.length < 4611686018427387904) : ∀ (m i1400 : Nat), l0.length < m + i1400 → i1400 ≤ l0.length → slices_IndexFunc_int_int.l1 k l0 m (i1400 : Int) = slices_IndexFunc_int_int.r1 k l0 (l0.drop i1400) i1400 := by
  intro m
  induction m with
  | zero => intro i1400 h hi; omega
  | succ m ih =>
    intro i1400 h hi
    by_cases hc : i1400 < l0.length
    · have hw : wrap64 ((i1400 : Int) + 1) = ((i1400 + 1 : Nat) : Int) := by unfold wrap64; omega
      have hg : l0[(i1400 : Int).toNat]? = some l0[i1400] := by rw [Int.toNat_natCast]; exact List.getElem?_eq_getElem hc
      have ih2 := ih (i1400 + 1) (by omega) (by omega)
      rw [List.drop_eq_getElem_cons hc, slices_IndexFunc_int_int.l1, slices_IndexFunc_int_int.r1, if_pos (by omega), if_pos (by omega), hg, Option.bind_some]
      simp only [hw, ih2]
    · rw [List.drop_of_length_le (by omega), slices_IndexFunc_int_int.l1, slices_IndexFunc_int_int.r1, if_neg (by omega)]
def stock_Right.r1 (k : Nat) (l0 : List S32) : List S32 → Nat → Option (Bool)
  | [], i1539 => (some (decide ((l0.length : Int) ≤ 8)))
  | x1590 :: xsi1539, i1539 => ((stock_may.f k x1590.f0 x1590.f1 x1590.f2 x1590.f3 x1590.f4 x1590.f5).bind fun t1594 => (if t1594 = true then (if (i1539 : Int) > 0 then (if 0 ≤ wrap64 ((i1539 : Int) - 1) then ((l0[(wrap64 ((i1539 : Int) - 1)).toNat]?).bind fun x1600 => (if (!Op.bytesLess x1600.f0.toList x1590.f0.toList) = true then (some false) else (stock_Right.r1 k l0 xsi1539 (i1539 + 1)))) else none) else (stock_Right.r1 k l0 xsi1539 (i1539 + 1))) else (some false)))
set_option maxHeartbeats 1000000 in
theorem stock_Right.r1_eq (k : Nat) (l0 : List S32)  (hs : l0.length < 4611686018427387904) : ∀ (m i1539 : Nat), l0.length < m + i1539 → i1539 ≤ l0.length → stock_Right.l1 k l0 m (i1539 : Int) = stock_Right.r1 k l0 (l0.drop i1539) i1539 := by
  intro m
  induction m with
  | zero => intro i1539 h hi; omega
  | succ m ih =>
    intro i1539 h hi
    by_cases hc : i1539 < l0.length
    · have hw : wrap64 ((i1539 : Int) + 1) = ((i1539 + 1 : Nat) : Int) := by unfold wrap64; omega
      have hg : l0[(i1539 : Int).toNat]? = some l0[i1539] := by rw [Int.toNat_natCast]; exact List.getElem?_eq_getElem hc
      have ih2 := ih (i1539 + 1) (by omega) (by omega)
      rw [List.drop_eq_getElem_cons hc, stock_Right.l1, stock_Right.r1, if_pos (by omega), if_pos (by omega), hg, Option.bind_some]
      simp only [hw, ih2]
    · rw [List.drop_of_length_le (by omega), stock_Right.l1, stock_Right.r1, if_neg (by omega)]
-- slices_BinarySearchFunc_api_Row_api_Row_string.l1: no index
def tarrylaw08_StockKeeps.r23 (k : Nat) (l8046 : List S32) (mp8047 : List (ByteArray × Int)) (mp8048 : List (ByteArray × Int)) (mp8049 : List (ByteArray × Int)) : List S32 → Option (Bool)
  | [] => ((tarrylaw08_alive.f k).bind fun t8414 => (if t8414 = true then (some ((l8046.length : Int) == (mp8049.length : Int))) else none))
  | x8383 :: xsi8283 => (if x8383.f1 = (mget mp8049 x8383.f0 0) then (if x8383.f4 = (mget mp8047 x8383.f0 0) then (if x8383.f5 = (mget mp8048 x8383.f0 0) then (if (wrap64 (x8383.f2 + x8383.f3)) = (wrap64 ((wrap64 (x8383.f1 - x8383.f4)) - x8383.f5)) then (if x8383.f2 < 0 then none else (if x8383.f3 < 0 then none else (tarrylaw08_StockKeeps.r23 k l8046 mp8047 mp8048 mp8049 xsi8283))) else none) else none) else none) else none)
set_option maxHeartbeats 1000000 in
theorem tarrylaw08_StockKeeps.r23_eq (k : Nat) (l8046 : List S32) (mp8047 : List (ByteArray × Int)) (mp8048 : List (ByteArray × Int)) (mp8049 : List (ByteArray × Int))  (hs : l8046.length < 4611686018427387904) : ∀ (m i8283 : Nat), l8046.length < m + i8283 → i8283 ≤ l8046.length → tarrylaw08_StockKeeps.l23 k l8046 mp8047 mp8048 mp8049 m (i8283 : Int) = tarrylaw08_StockKeeps.r23 k l8046 mp8047 mp8048 mp8049 (l8046.drop i8283) := by
  intro m
  induction m with
  | zero => intro i8283 h hi; omega
  | succ m ih =>
    intro i8283 h hi
    by_cases hc : i8283 < l8046.length
    · have hw : wrap64 ((i8283 : Int) + 1) = ((i8283 + 1 : Nat) : Int) := by unfold wrap64; omega
      have hg : l8046[(i8283 : Int).toNat]? = some l8046[i8283] := by rw [Int.toNat_natCast]; exact List.getElem?_eq_getElem hc
      have ih2 := ih (i8283 + 1) (by omega) (by omega)
      rw [List.drop_eq_getElem_cons hc, tarrylaw08_StockKeeps.l23, tarrylaw08_StockKeeps.r23, if_pos (by omega), if_pos (by omega), hg, Option.bind_some]
      simp only [hw, ih2]
    · rw [List.drop_of_length_le (by omega), tarrylaw08_StockKeeps.l23, tarrylaw08_StockKeeps.r23, if_neg (by omega)]
def tarrylaw08_StockKeeps.r19 (k : Nat) (l0 : List S25) : List S25 → Nat → (List S32) → (List (ByteArray × Int)) → (List (ByteArray × Int)) → (List (ByteArray × Int)) → Option (Bool)
  | [], i7230, l7228, mp7231, mp7232, mp7233 => (tarrylaw08_StockKeeps.j18 k l7228 mp7231 mp7232 mp7233)
  | x7844 :: xsi7230, i7230, l7228, mp7231, mp7232, mp7233 => (if (i7230 : Int) ≥ 30 then (tarrylaw08_StockKeeps.j18 k l7228 mp7231 mp7232 mp7233) else (if 0 ≤ mn (x7844.f1.size : Int) 18 then (if (mn (x7844.f1.size : Int) 18) ≤ (x7844.f1.size : Int) then ((tarrylaw08_does.f k l7228 (x7844.f1.extract 0 ((mn (x7844.f1.size : Int) 18).toNat)) x7844.f2 ((wrap64 ((x7844.f0.tmod 5) + 5)).tmod 5)).bind fun ⟨r7854, t7855⟩ => (if ((wrap64 ((x7844.f0.tmod 5) + 5)).tmod 5) = 0 then ((stock_Receive.f k l7228 (x7844.f1.extract 0 ((mn (x7844.f1.size : Int) 18).toNat)) x7844.f2).bind fun ⟨r7981, t7982⟩ => ((fun (l7993 : List S32) (i7994 : Int) (q7995 : Bool) => (if i7994 = 0 then (if ((wrap64 ((x7844.f0.tmod 5) + 5)).tmod 5) = 0 then ((stock_Right.f k l7993).bind fun t8015 => (if t8015 = true then (tarrylaw08_StockKeeps.r19 k l0 xsi7230 (i7230 + 1) l7993 mp7231 mp7232 (mset mp7233 (x7844.f1.extract 0 ((mn (x7844.f1.size : Int) 18).toNat)) (wrap64 ((mget mp7233 (x7844.f1.extract 0 ((mn (x7844.f1.size : Int) 18).toNat)) 0) + x7844.f2)))) else none)) else (if ((wrap64 ((x7844.f0.tmod 5) + 5)).tmod 5) = 3 then ((stock_Right.f k l7993).bind fun t8023 => (if t8023 = true then (tarrylaw08_StockKeeps.r19 k l0 xsi7230 (i7230 + 1) l7993 (mset mp7231 (x7844.f1.extract 0 ((mn (x7844.f1.size : Int) 18).toNat)) (wrap64 ((mget mp7231 (x7844.f1.extract 0 ((mn (x7844.f1.size : Int) 18).toNat)) 0) + x7844.f2))) mp7232 mp7233) else none)) else (if ((wrap64 ((x7844.f0.tmod 5) + 5)).tmod 5) = 4 then ((stock_Right.f k l7993).bind fun t8031 => (if t8031 = true then (tarrylaw08_StockKeeps.r19 k l0 xsi7230 (i7230 + 1) l7993 mp7231 (mset mp7232 (x7844.f1.extract 0 ((mn (x7844.f1.size : Int) 18).toNat)) (wrap64 ((mget mp7232 (x7844.f1.extract 0 ((mn (x7844.f1.size : Int) 18).toNat)) 0) + x7844.f2))) mp7233) else none)) else ((stock_Right.f k l7993).bind fun t8037 => (if t8037 = true then (tarrylaw08_StockKeeps.r19 k l0 xsi7230 (i7230 + 1) l7993 mp7231 mp7232 mp7233) else none))))) else (if (l7993.length : Int) = 0 then (tarrylaw08_StockKeeps.r19 k l0 xsi7230 (i7230 + 1) l7228 mp7231 mp7232 mp7233) else none))) r7981 t7982 true)) else ((fun (l7993 : List S32) (i7994 : Int) (q7995 : Bool) => (if i7994 = 0 then (if ((wrap64 ((x7844.f0.tmod 5) + 5)).tmod 5) = 0 then ((stock_Right.f k l7993).bind fun t8015 => (if t8015 = true then (tarrylaw08_StockKeeps.r19 k l0 xsi7230 (i7230 + 1) l7993 mp7231 mp7232 (mset mp7233 (x7844.f1.extract 0 ((mn (x7844.f1.size : Int) 18).toNat)) (wrap64 ((mget mp7233 (x7844.f1.extract 0 ((mn (x7844.f1.size : Int) 18).toNat)) 0) + x7844.f2)))) else none)) else (if ((wrap64 ((x7844.f0.tmod 5) + 5)).tmod 5) = 3 then ((stock_Right.f k l7993).bind fun t8023 => (if t8023 = true then (tarrylaw08_StockKeeps.r19 k l0 xsi7230 (i7230 + 1) l7993 (mset mp7231 (x7844.f1.extract 0 ((mn (x7844.f1.size : Int) 18).toNat)) (wrap64 ((mget mp7231 (x7844.f1.extract 0 ((mn (x7844.f1.size : Int) 18).toNat)) 0) + x7844.f2))) mp7232 mp7233) else none)) else (if ((wrap64 ((x7844.f0.tmod 5) + 5)).tmod 5) = 4 then ((stock_Right.f k l7993).bind fun t8031 => (if t8031 = true then (tarrylaw08_StockKeeps.r19 k l0 xsi7230 (i7230 + 1) l7993 mp7231 (mset mp7232 (x7844.f1.extract 0 ((mn (x7844.f1.size : Int) 18).toNat)) (wrap64 ((mget mp7232 (x7844.f1.extract 0 ((mn (x7844.f1.size : Int) 18).toNat)) 0) + x7844.f2))) mp7233) else none)) else ((stock_Right.f k l7993).bind fun t8037 => (if t8037 = true then (tarrylaw08_StockKeeps.r19 k l0 xsi7230 (i7230 + 1) l7993 mp7231 mp7232 mp7233) else none))))) else (if (l7993.length : Int) = 0 then (tarrylaw08_StockKeeps.r19 k l0 xsi7230 (i7230 + 1) l7228 mp7231 mp7232 mp7233) else none))) r7854 t7855 false))) else none) else none))
set_option maxHeartbeats 1000000 in
theorem tarrylaw08_StockKeeps.r19_eq (k : Nat) (l0 : List S25)  (hs : l0.length < 4611686018427387904) : ∀ (m i7230 : Nat) (l7228 : List S32) (mp7231 : List (ByteArray × Int)) (mp7232 : List (ByteArray × Int)) (mp7233 : List (ByteArray × Int)), l0.length < m + i7230 → i7230 ≤ l0.length → tarrylaw08_StockKeeps.l19 k l0 m l7228 (i7230 : Int) mp7231 mp7232 mp7233 = tarrylaw08_StockKeeps.r19 k l0 (l0.drop i7230) i7230 l7228 mp7231 mp7232 mp7233 := by
  intro m
  induction m with
  | zero => intro i7230 l7228 mp7231 mp7232 mp7233 h hi; omega
  | succ m ih =>
    intro i7230 l7228 mp7231 mp7232 mp7233 h hi
    by_cases hc : i7230 < l0.length
    · have hw : wrap64 ((i7230 : Int) + 1) = ((i7230 + 1 : Nat) : Int) := by unfold wrap64; omega
      have hg : l0[(i7230 : Int).toNat]? = some l0[i7230] := by rw [Int.toNat_natCast]; exact List.getElem?_eq_getElem hc
      have ih2 := fun l7228 mp7231 mp7232 mp7233 => ih (i7230 + 1) l7228 mp7231 mp7232 mp7233 (by omega) (by omega)
      rw [List.drop_eq_getElem_cons hc, tarrylaw08_StockKeeps.l19, tarrylaw08_StockKeeps.r19, if_pos (by omega), if_pos (by omega), hg, Option.bind_some]
      simp only [tarrylaw08_StockKeeps.j21, hw, ih2]
    · rw [List.drop_of_length_le (by omega), tarrylaw08_StockKeeps.l19, tarrylaw08_StockKeeps.r19, if_neg (by omega)]

end Go.Proofs.Ytibpoajlnloloaa.PStockKeeps
