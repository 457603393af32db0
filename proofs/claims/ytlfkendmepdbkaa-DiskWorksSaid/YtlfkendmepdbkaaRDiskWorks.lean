/- Written by a program of this repo: what the program's functions do, each as a Lean function, shown of the loaded code; or a statement's row over that; no condition of its own. -/
import Derived.Test.YtlfkendmepdbkaaPDiskWorksx0
namespace Go.Proofs.Ytlfkendmepdbkaa.PDiskWorks
open Go Go.RowKit Go.Proofs.YtlfkendmepdbkaaV
set_option linter.unusedVariables false
set_option linter.unusedSimpArgs false

def tarrylaw03_few.r5 (k : Nat) (l0_1 : List S32) (l81 : List ByteArray) : List S32 → (List S32) → Option (List ByteArray × List S32)
  | [], l295 => (some (l81, l295))
  | x316 :: xsi292, l295 => (if 0 ≤ mn (x316.f1.size : Int) 66 then (if (mn (x316.f1.size : Int) 66) ≤ (x316.f1.size : Int) then (if (l295.length + ([(⟨x316.f0, x316.f1.extract 0 ((mn (x316.f1.size : Int) 66).toNat)⟩ : S32)] : List S32).length) * 24 ≤ 140737488355328 then (tarrylaw03_few.r5 k l0_1 l81 xsi292 (l295 ++ ([(⟨x316.f0, x316.f1.extract 0 ((mn (x316.f1.size : Int) 66).toNat)⟩ : S32)] : List S32))) else none) else none) else none)
set_option maxHeartbeats 1000000 in
theorem tarrylaw03_few.r5_eq (k : Nat) (l0_1 : List S32) (l81 : List ByteArray)  (hs : ((l0_1.take ((mn (l0_1.length : Int) 66).toNat)).drop 0).length < 4611686018427387904) : ∀ (m i292 : Nat) (l295 : List S32), ((l0_1.take ((mn (l0_1.length : Int) 66).toNat)).drop 0).length < m + i292 → i292 ≤ ((l0_1.take ((mn (l0_1.length : Int) 66).toNat)).drop 0).length → tarrylaw03_few.l5 k l0_1 l81 m (i292 : Int) l295 = tarrylaw03_few.r5 k l0_1 l81 (((l0_1.take ((mn (l0_1.length : Int) 66).toNat)).drop 0).drop i292) l295 := by
  intro m
  induction m with
  | zero => intro i292 l295 h hi; omega
  | succ m ih =>
    intro i292 l295 h hi
    by_cases hc : i292 < ((l0_1.take ((mn (l0_1.length : Int) 66).toNat)).drop 0).length
    · have hw : wrap64 ((i292 : Int) + 1) = ((i292 + 1 : Nat) : Int) := by unfold wrap64; omega
      have hg : ((l0_1.take ((mn (l0_1.length : Int) 66).toNat)).drop 0)[(i292 : Int).toNat]? = some ((l0_1.take ((mn (l0_1.length : Int) 66).toNat)).drop 0)[i292] := by rw [Int.toNat_natCast]; exact List.getElem?_eq_getElem hc
      have ih2 := fun l295 => ih (i292 + 1) l295 (by omega) (by omega)
      rw [List.drop_eq_getElem_cons hc, tarrylaw03_few.l5, tarrylaw03_few.r5, if_pos (by omega), if_pos (by omega), hg, Option.bind_some]
      simp only [hw, ih2]
    · rw [List.drop_of_length_le (by omega), tarrylaw03_few.l5, tarrylaw03_few.r5, if_neg (by omega)]
def tarrylaw03_few.r1 (k : Nat) (l0_0 : List ByteArray) (l0_1 : List S32) : List ByteArray → (List ByteArray) → Option (List ByteArray × List S32)
  | [], l81 => (if 0 ≤ mn (l0_1.length : Int) 66 then (if (mn (l0_1.length : Int) 66) ≤ (l0_1.length : Int) then (tarrylaw03_few.r5 k l0_1 l81 ((l0_1.take ((mn (l0_1.length : Int) 66).toNat)).drop 0) ([] : List S32)) else none) else none)
  | x209 :: xsi78, l81 => (if 0 ≤ mn (x209.size : Int) 66 then (if (mn (x209.size : Int) 66) ≤ (x209.size : Int) then (if (l81.length + ([x209.extract 0 ((mn (x209.size : Int) 66).toNat)] : List ByteArray).length) * 16 ≤ 140737488355328 then (tarrylaw03_few.r1 k l0_0 l0_1 xsi78 (l81 ++ ([x209.extract 0 ((mn (x209.size : Int) 66).toNat)] : List ByteArray))) else none) else none) else none)
set_option maxHeartbeats 1000000 in
theorem tarrylaw03_few.r1_eq (k : Nat) (l0_0 : List ByteArray) (l0_1 : List S32) (hl5_0 : ((l0_1.take ((mn (l0_1.length : Int) 66).toNat)).drop 0).length < k ∧ ((l0_1.take ((mn (l0_1.length : Int) 66).toNat)).drop 0).length < 4611686018427387904) (hs : ((l0_0.take ((mn (l0_0.length : Int) 20).toNat)).drop 0).length < 4611686018427387904) : ∀ (m i78 : Nat) (l81 : List ByteArray), ((l0_0.take ((mn (l0_0.length : Int) 20).toNat)).drop 0).length < m + i78 → i78 ≤ ((l0_0.take ((mn (l0_0.length : Int) 20).toNat)).drop 0).length → tarrylaw03_few.l1 k l0_0 l0_1 m (i78 : Int) l81 = tarrylaw03_few.r1 k l0_0 l0_1 (((l0_0.take ((mn (l0_0.length : Int) 20).toNat)).drop 0).drop i78) l81 := by
  intro m
  induction m with
  | zero => intro i78 l81 h hi; omega
  | succ m ih =>
    intro i78 l81 h hi
    by_cases hc : i78 < ((l0_0.take ((mn (l0_0.length : Int) 20).toNat)).drop 0).length
    · have hw : wrap64 ((i78 : Int) + 1) = ((i78 + 1 : Nat) : Int) := by unfold wrap64; omega
      have hg : ((l0_0.take ((mn (l0_0.length : Int) 20).toNat)).drop 0)[(i78 : Int).toNat]? = some ((l0_0.take ((mn (l0_0.length : Int) 20).toNat)).drop 0)[i78] := by rw [Int.toNat_natCast]; exact List.getElem?_eq_getElem hc
      have ih2 := fun l81 => ih (i78 + 1) l81 (by omega) (by omega)
      rw [List.drop_eq_getElem_cons hc, tarrylaw03_few.l1, tarrylaw03_few.r1, if_pos (by omega), if_pos (by omega), hg, Option.bind_some]
      have el5 : ∀ (l81 : List ByteArray) (l295 : List S32), tarrylaw03_few.l5 k l0_1 l81 k 0 l295 = tarrylaw03_few.r5 k l0_1 l81 ((l0_1.take ((mn (l0_1.length : Int) 66).toNat)).drop 0) l295 := fun l81 l295 => tarrylaw03_few.r5_eq k l0_1 l81 (hl5_0).2 k 0 l295 (by have := (hl5_0).1; omega) (Nat.zero_le _)
      simp only [el5, hw, ih2]
    · rw [List.drop_of_length_le (by omega), tarrylaw03_few.l1, tarrylaw03_few.r1, if_neg (by omega)]
      have el5 : ∀ (l81 : List ByteArray) (l295 : List S32), tarrylaw03_few.l5 k l0_1 l81 k 0 l295 = tarrylaw03_few.r5 k l0_1 l81 ((l0_1.take ((mn (l0_1.length : Int) 66).toNat)).drop 0) l295 := fun l81 l295 => tarrylaw03_few.r5_eq k l0_1 l81 (hl5_0).2 k 0 l295 (by have := (hl5_0).1; omega) (Nat.zero_le _)
      try simp only [el5]
      try simp only [Int.natCast_zero]
def slices_IndexFunc_string_string.r1 (k : Nat) (l0 : List ByteArray) : List ByteArray → Nat → Option (Int)
  | [], i460 => (some (-1))
  | x489 :: xsi460, i460 => ((disk_Right_1.f x489).bind fun t492 => (if t492 = true then (some (i460 : Int)) else (slices_IndexFunc_string_string.r1 k l0 xsi460 (i460 + 1))))
set_option maxHeartbeats 1000000 in
theorem slices_IndexFunc_string_string.r1_eq (k : Nat) (l0 : List ByteArray)  (hs : l0.length < 4611686018427387904) : ∀ (m i460 : Nat), l0.length < m + i460 → i460 ≤ l0.length → slices_IndexFunc_string_string.l1 k l0 m (i460 : Int) = slices_IndexFunc_string_string.r1 k l0 (l0.drop i460) i460 := by
  intro m
  induction m with
  | zero => intro i460 h hi; omega
  | succ m ih =>
    intro i460 h hi
    by_cases hc : i460 < l0.length
    · have hw : wrap64 ((i460 : Int) + 1) = ((i460 + 1 : Nat) : Int) := by unfold wrap64; omega
      have hg : l0[(i460 : Int).toNat]? = some l0[i460] := by rw [Int.toNat_natCast]; exact List.getElem?_eq_getElem hc
      have ih2 := ih (i460 + 1) (by omega) (by omega)
      rw [List.drop_eq_getElem_cons hc, slices_IndexFunc_string_string.l1, slices_IndexFunc_string_string.r1, if_pos (by omega), if_pos (by omega), hg, Option.bind_some]
      simp only [hw, ih2]
    · rw [List.drop_of_length_le (by omega), slices_IndexFunc_string_string.l1, slices_IndexFunc_string_string.r1, if_neg (by omega)]
def slices_IndexFunc_api_Write_api_Write.r1 (k : Nat) (a1_0_0 : Int) (l0 : List S32) : List S32 → Nat → Option (Int)
  | [], i581 => (some (-1))
  | x610 :: xsi581, i581 => ((disk_Right_2.f x610.f0 x610.f1 a1_0_0).bind fun t613 => (if t613 = true then (some (i581 : Int)) else (slices_IndexFunc_api_Write_api_Write.r1 k a1_0_0 l0 xsi581 (i581 + 1))))
set_option maxHeartbeats 1000000 in
theorem slices_IndexFunc_api_Write_api_Write.r1_eq (k : Nat) (a1_0_0 : Int) (l0 : List S32)  (hs : l0.length < 4611686018427387904) : ∀ (m i581 : Nat), l0.length < m + i581 → i581 ≤ l0.length → slices_IndexFunc_api_Write_api_Write.l1 k a1_0_0 l0 m (i581 : Int) = slices_IndexFunc_api_Write_api_Write.r1 k a1_0_0 l0 (l0.drop i581) i581 := by
  intro m
  induction m with
  | zero => intro i581 h hi; omega
  | succ m ih =>
    intro i581 h hi
    by_cases hc : i581 < l0.length
    · have hw : wrap64 ((i581 : Int) + 1) = ((i581 + 1 : Nat) : Int) := by unfold wrap64; omega
      have hg : l0[(i581 : Int).toNat]? = some l0[i581] := by rw [Int.toNat_natCast]; exact List.getElem?_eq_getElem hc
      have ih2 := ih (i581 + 1) (by omega) (by omega)
      rw [List.drop_eq_getElem_cons hc, slices_IndexFunc_api_Write_api_Write.l1, slices_IndexFunc_api_Write_api_Write.r1, if_pos (by omega), if_pos (by omega), hg, Option.bind_some]
      simp only [hw, ih2]
    · rw [List.drop_of_length_le (by omega), slices_IndexFunc_api_Write_api_Write.l1, slices_IndexFunc_api_Write_api_Write.r1, if_neg (by omega)]
-- disk_Get.l0: no index
def disk_Crash.r3 (k : Nat) (a1 : Int) (a2 : Int) (l0_1 : List S32) : List S32 → Nat → (List ByteArray) → Int → Option (List ByteArray × List S32 × Int)
  | [], i1290, l1288, i1289 => (disk_Crash.j2 k a2 l0_1 l1288 i1289)
  | x1337 :: xsi1290, i1290, l1288, i1289 => (if (Go.bits .and .u64 (a1.fdiv (2 ^ min (i1290 : Int).toNat IntKind.u64.bits)) 1) = 1 then (if 0 ≤ x1337.f0 then ((l1288[x1337.f0.toNat]?).bind fun x1344 => (disk_Crash.r3 k a1 a2 l0_1 xsi1290 (i1290 + 1) (l1288.set x1337.f0.toNat x1337.f1) i1289)) else none) else (disk_Crash.r3 k a1 a2 l0_1 xsi1290 (i1290 + 1) l1288 (i1290 : Int)))
set_option maxHeartbeats 1000000 in
theorem disk_Crash.r3_eq (k : Nat) (a1 : Int) (a2 : Int) (l0_1 : List S32)  (hs : l0_1.length < 4611686018427387904) : ∀ (m i1290 : Nat) (l1288 : List ByteArray) (i1289 : Int), l0_1.length < m + i1290 → i1290 ≤ l0_1.length → disk_Crash.l3 k a1 a2 l0_1 m l1288 i1289 (i1290 : Int) = disk_Crash.r3 k a1 a2 l0_1 (l0_1.drop i1290) i1290 l1288 i1289 := by
  intro m
  induction m with
  | zero => intro i1290 l1288 i1289 h hi; omega
  | succ m ih =>
    intro i1290 l1288 i1289 h hi
    by_cases hc : i1290 < l0_1.length
    · have hw : wrap64 ((i1290 : Int) + 1) = ((i1290 + 1 : Nat) : Int) := by unfold wrap64; omega
      have hg : l0_1[(i1290 : Int).toNat]? = some l0_1[i1290] := by rw [Int.toNat_natCast]; exact List.getElem?_eq_getElem hc
      have ih2 := fun l1288 i1289 => ih (i1290 + 1) l1288 i1289 (by omega) (by omega)
      rw [List.drop_eq_getElem_cons hc, disk_Crash.l3, disk_Crash.r3, if_pos (by omega), if_pos (by omega), hg, Option.bind_some]
      simp only [hw, ih2]
    · rw [List.drop_of_length_le (by omega), disk_Crash.l3, disk_Crash.r3, if_neg (by omega)]
def tarryref03_Like.r5 (k : Nat) (l0_1 : List S32) (l1_1 : List S32) : List S32 → Nat → Option (Bool)
  | [], i1682 => (some true)
  | x1705 :: xsi1682, i1682 => ((l1_1[(i1682 : Int).toNat]?).bind fun x1706 => (if (((x1705.f0 == x1706.f0) && (x1705.f1 == x1706.f1))) = true then (tarryref03_Like.r5 k l0_1 l1_1 xsi1682 (i1682 + 1)) else (some false)))
set_option maxHeartbeats 1000000 in
theorem tarryref03_Like.r5_eq (k : Nat) (l0_1 : List S32) (l1_1 : List S32)  (hs : l0_1.length < 4611686018427387904) : ∀ (m i1682 : Nat), l0_1.length < m + i1682 → i1682 ≤ l0_1.length → tarryref03_Like.l5 k l0_1 l1_1 m (i1682 : Int) = tarryref03_Like.r5 k l0_1 l1_1 (l0_1.drop i1682) i1682 := by
  intro m
  induction m with
  | zero => intro i1682 h hi; omega
  | succ m ih =>
    intro i1682 h hi
    by_cases hc : i1682 < l0_1.length
    · have hw : wrap64 ((i1682 : Int) + 1) = ((i1682 + 1 : Nat) : Int) := by unfold wrap64; omega
      have hg : l0_1[(i1682 : Int).toNat]? = some l0_1[i1682] := by rw [Int.toNat_natCast]; exact List.getElem?_eq_getElem hc
      have ih2 := ih (i1682 + 1) (by omega) (by omega)
      rw [List.drop_eq_getElem_cons hc, tarryref03_Like.l5, tarryref03_Like.r5, if_pos (by omega), if_pos (by omega), hg, Option.bind_some]
      simp only [hw, ih2]
    · rw [List.drop_of_length_le (by omega), tarryref03_Like.l5, tarryref03_Like.r5, if_neg (by omega)]
def tarryref03_Like.r1 (k : Nat) (l0_0 : List ByteArray) (l0_1 : List S32) (l1_0 : List ByteArray) (l1_1 : List S32) : List ByteArray → Nat → Option (Bool)
  | [], i1526 => (tarryref03_Like.r5 k l0_1 l1_1 l0_1 0)
  | x1629 :: xsi1526, i1526 => ((l1_0[(i1526 : Int).toNat]?).bind fun x1630 => (if (x1629 == x1630) = true then (tarryref03_Like.r1 k l0_0 l0_1 l1_0 l1_1 xsi1526 (i1526 + 1)) else (some false)))
set_option maxHeartbeats 1000000 in
theorem tarryref03_Like.r1_eq (k : Nat) (l0_0 : List ByteArray) (l0_1 : List S32) (l1_0 : List ByteArray) (l1_1 : List S32) (hl5_0 : l0_1.length < k ∧ l0_1.length < 4611686018427387904) (hs : l0_0.length < 4611686018427387904) : ∀ (m i1526 : Nat), l0_0.length < m + i1526 → i1526 ≤ l0_0.length → tarryref03_Like.l1 k l0_0 l0_1 l1_0 l1_1 m (i1526 : Int) = tarryref03_Like.r1 k l0_0 l0_1 l1_0 l1_1 (l0_0.drop i1526) i1526 := by
  intro m
  induction m with
  | zero => intro i1526 h hi; omega
  | succ m ih =>
    intro i1526 h hi
    by_cases hc : i1526 < l0_0.length
    · have hw : wrap64 ((i1526 : Int) + 1) = ((i1526 + 1 : Nat) : Int) := by unfold wrap64; omega
      have hg : l0_0[(i1526 : Int).toNat]? = some l0_0[i1526] := by rw [Int.toNat_natCast]; exact List.getElem?_eq_getElem hc
      have ih2 := ih (i1526 + 1) (by omega) (by omega)
      rw [List.drop_eq_getElem_cons hc, tarryref03_Like.l1, tarryref03_Like.r1, if_pos (by omega), if_pos (by omega), hg, Option.bind_some]
      have el5 : tarryref03_Like.l5 k l0_1 l1_1 k 0 = tarryref03_Like.r5 k l0_1 l1_1 l0_1 0 := tarryref03_Like.r5_eq k l0_1 l1_1 (hl5_0).2 k 0 (by have := (hl5_0).1; omega) (Nat.zero_le _)
      simp only [el5, hw, ih2]
    · rw [List.drop_of_length_le (by omega), tarryref03_Like.l1, tarryref03_Like.r1, if_neg (by omega)]
      have el5 : tarryref03_Like.l5 k l0_1 l1_1 k 0 = tarryref03_Like.r5 k l0_1 l1_1 l0_1 0 := tarryref03_Like.r5_eq k l0_1 l1_1 (hl5_0).2 k 0 (by have := (hl5_0).1; omega) (Nat.zero_le _)
      try simp only [el5]
      try simp only [Int.natCast_zero]
def tarryref03_Right.r5 (k : Nat) (l0_0 : List ByteArray) (l0_1 : List S32) : List S32 → Option (Bool)
  | [] => (if (l0_0.length : Int) > 0 then (if (l0_0.length : Int) ≤ 512 then (some (decide ((l0_1.length : Int) ≤ 64))) else (some false)) else (some false))
  | x2273 :: xsi2207 => (if x2273.f0 < 0 then (some false) else (if x2273.f0 ≥ (l0_0.length : Int) then (some false) else (if (x2273.f1.size : Int) = 64 then (tarryref03_Right.r5 k l0_0 l0_1 xsi2207) else (some false))))
set_option maxHeartbeats 1000000 in
theorem tarryref03_Right.r5_eq (k : Nat) (l0_0 : List ByteArray) (l0_1 : List S32)  (hs : l0_1.length < 4611686018427387904) : ∀ (m i2207 : Nat), l0_1.length < m + i2207 → i2207 ≤ l0_1.length → tarryref03_Right.l5 k l0_0 l0_1 m (i2207 : Int) = tarryref03_Right.r5 k l0_0 l0_1 (l0_1.drop i2207) := by
  intro m
  induction m with
  | zero => intro i2207 h hi; omega
  | succ m ih =>
    intro i2207 h hi
    by_cases hc : i2207 < l0_1.length
    · have hw : wrap64 ((i2207 : Int) + 1) = ((i2207 + 1 : Nat) : Int) := by unfold wrap64; omega
      have hg : l0_1[(i2207 : Int).toNat]? = some l0_1[i2207] := by rw [Int.toNat_natCast]; exact List.getElem?_eq_getElem hc
      have ih2 := ih (i2207 + 1) (by omega) (by omega)
      rw [List.drop_eq_getElem_cons hc, tarryref03_Right.l5, tarryref03_Right.r5, if_pos (by omega), if_pos (by omega), hg, Option.bind_some]
      simp only [hw, ih2]
    · rw [List.drop_of_length_le (by omega), tarryref03_Right.l5, tarryref03_Right.r5, if_neg (by omega)]
def tarryref03_Right.r1 (k : Nat) (l0_0 : List ByteArray) (l0_1 : List S32) : List ByteArray → Option (Bool)
  | [] => (tarryref03_Right.r5 k l0_0 l0_1 l0_1)
  | x2065 :: xsi1811 => (if (x2065.size : Int) = 64 then (tarryref03_Right.r1 k l0_0 l0_1 xsi1811) else (some false))
set_option maxHeartbeats 1000000 in
theorem tarryref03_Right.r1_eq (k : Nat) (l0_0 : List ByteArray) (l0_1 : List S32) (hl5_0 : l0_1.length < k ∧ l0_1.length < 4611686018427387904) (hs : l0_0.length < 4611686018427387904) : ∀ (m i1811 : Nat), l0_0.length < m + i1811 → i1811 ≤ l0_0.length → tarryref03_Right.l1 k l0_0 l0_1 m (i1811 : Int) = tarryref03_Right.r1 k l0_0 l0_1 (l0_0.drop i1811) := by
  intro m
  induction m with
  | zero => intro i1811 h hi; omega
  | succ m ih =>
    intro i1811 h hi
    by_cases hc : i1811 < l0_0.length
    · have hw : wrap64 ((i1811 : Int) + 1) = ((i1811 + 1 : Nat) : Int) := by unfold wrap64; omega
      have hg : l0_0[(i1811 : Int).toNat]? = some l0_0[i1811] := by rw [Int.toNat_natCast]; exact List.getElem?_eq_getElem hc
      have ih2 := ih (i1811 + 1) (by omega) (by omega)
      rw [List.drop_eq_getElem_cons hc, tarryref03_Right.l1, tarryref03_Right.r1, if_pos (by omega), if_pos (by omega), hg, Option.bind_some]
      have el5 : tarryref03_Right.l5 k l0_0 l0_1 k 0 = tarryref03_Right.r5 k l0_0 l0_1 l0_1 := tarryref03_Right.r5_eq k l0_0 l0_1 (hl5_0).2 k 0 (by have := (hl5_0).1; omega) (Nat.zero_le _)
      simp only [el5, hw, ih2]
    · rw [List.drop_of_length_le (by omega), tarryref03_Right.l1, tarryref03_Right.r1, if_neg (by omega)]
      have el5 : tarryref03_Right.l5 k l0_0 l0_1 k 0 = tarryref03_Right.r5 k l0_0 l0_1 l0_1 := tarryref03_Right.r5_eq k l0_0 l0_1 (hl5_0).2 k 0 (by have := (hl5_0).1; omega) (Nat.zero_le _)
      try simp only [el5]
      try simp only [Int.natCast_zero]
-- tarryref03_Kept.l1: no index
def tarryref03_Crash.r3 (k : Nat) (a1 : Int) (a2 : Int) (l0_1 : List S32) : List S32 → Nat → (List ByteArray) → Int → Option (List ByteArray × List S32)
  | [], i3062, l3060, i3061 => (tarryref03_Crash.j2 k a2 l0_1 l3060 i3061)
  | x3106 :: xsi3062, i3062, l3060, i3061 => ((tarryref03_Kept.f k a1 (i3062 : Int)).bind fun t3110 => (if t3110 = true then ((tarryref03_Set.f l3060 x3106.f0 x3106.f1).bind fun r3113 => (tarryref03_Crash.r3 k a1 a2 l0_1 xsi3062 (i3062 + 1) r3113 i3061)) else (tarryref03_Crash.r3 k a1 a2 l0_1 xsi3062 (i3062 + 1) l3060 (i3062 : Int))))
set_option maxHeartbeats 1000000 in
theorem tarryref03_Crash.r3_eq (k : Nat) (a1 : Int) (a2 : Int) (l0_1 : List S32)  (hs : l0_1.length < 4611686018427387904) : ∀ (m i3062 : Nat) (l3060 : List ByteArray) (i3061 : Int), l0_1.length < m + i3062 → i3062 ≤ l0_1.length → tarryref03_Crash.l3 k a1 a2 l0_1 m l3060 i3061 (i3062 : Int) = tarryref03_Crash.r3 k a1 a2 l0_1 (l0_1.drop i3062) i3062 l3060 i3061 := by
  intro m
  induction m with
  | zero => intro i3062 l3060 i3061 h hi; omega
  | succ m ih =>
    intro i3062 l3060 i3061 h hi
    by_cases hc : i3062 < l0_1.length
    · have hw : wrap64 ((i3062 : Int) + 1) = ((i3062 + 1 : Nat) : Int) := by unfold wrap64; omega
      have hg : l0_1[(i3062 : Int).toNat]? = some l0_1[i3062] := by rw [Int.toNat_natCast]; exact List.getElem?_eq_getElem hc
      have ih2 := fun l3060 i3061 => ih (i3062 + 1) l3060 i3061 (by omega) (by omega)
      rw [List.drop_eq_getElem_cons hc, tarryref03_Crash.l3, tarryref03_Crash.r3, if_pos (by omega), if_pos (by omega), hg, Option.bind_some]
      simp only [hw, ih2]
    · rw [List.drop_of_length_le (by omega), tarryref03_Crash.l3, tarryref03_Crash.r3, if_neg (by omega)]
def tarryref03_Get.r1 (k : Nat) (a1 : Int) (l0_1 : List S32) : List S32 → ByteArray → Option (ByteArray)
  | [], s3394 => (some s3394)
  | x3424 :: xsi3395, s3394 => (if x3424.f0 = a1 then (tarryref03_Get.r1 k a1 l0_1 xsi3395 x3424.f1) else (tarryref03_Get.r1 k a1 l0_1 xsi3395 s3394))
set_option maxHeartbeats 1000000 in
theorem tarryref03_Get.r1_eq (k : Nat) (a1 : Int) (l0_1 : List S32)  (hs : l0_1.length < 4611686018427387904) : ∀ (m i3395 : Nat) (s3394 : ByteArray), l0_1.length < m + i3395 → i3395 ≤ l0_1.length → tarryref03_Get.l1 k a1 l0_1 m s3394 (i3395 : Int) = tarryref03_Get.r1 k a1 l0_1 (l0_1.drop i3395) s3394 := by
  intro m
  induction m with
  | zero => intro i3395 s3394 h hi; omega
  | succ m ih =>
    intro i3395 s3394 h hi
    by_cases hc : i3395 < l0_1.length
    · have hw : wrap64 ((i3395 : Int) + 1) = ((i3395 + 1 : Nat) : Int) := by unfold wrap64; omega
      have hg : l0_1[(i3395 : Int).toNat]? = some l0_1[i3395] := by rw [Int.toNat_natCast]; exact List.getElem?_eq_getElem hc
      have ih2 := fun s3394 => ih (i3395 + 1) s3394 (by omega) (by omega)
      rw [List.drop_eq_getElem_cons hc, tarryref03_Get.l1, tarryref03_Get.r1, if_pos (by omega), if_pos (by omega), hg, Option.bind_some]
      simp only [hw, ih2]
    · rw [List.drop_of_length_le (by omega), tarryref03_Get.l1, tarryref03_Get.r1, if_neg (by omega)]

end Go.Proofs.Ytlfkendmepdbkaa.PDiskWorks
