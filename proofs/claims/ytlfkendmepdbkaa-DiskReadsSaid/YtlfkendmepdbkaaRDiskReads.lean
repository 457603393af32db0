/- Written by a program of this repo: what the program's functions do, each as a Lean function, shown of the loaded code; or a statement's row over that; no condition of its own. -/
import Derived.Test.YtlfkendmepdbkaaPDiskReadsx0
namespace Go.Proofs.Ytlfkendmepdbkaa.PDiskReads
open Go Go.RowKit Go.Proofs.YtlfkendmepdbkaaV
set_option linter.unusedVariables false
set_option linter.unusedSimpArgs false

def tarrylaw03_few.r5 (k : Nat) (l0_1 : List S32) (l81 : List ByteArray) : List S32 → (List S32) → Option (List ByteArray × List S32)
  | [], l295 => (some (l81, l295))
  | x316 :: xsi292, l295 => (if 0 ≤ mn (x316.f1.size : Int) 66 then (if (mn (x316.f1.size : Int) 66) ≤ (x316.f1.size : Int) then (if (l295.length + ([(⟨x316.f0, x316.f1.extract 0 ((mn (x316.f1.size : Int) 66).toNat)⟩ : S32)] : List S32).length) * 24 ≤ 140737488355328 then (tarrylaw03_few.r5 k l0_1 l81 xsi292 (l295 ++ ([(⟨x316.f0, x316.f1.extract 0 ((mn (x316.f1.size : Int) 66).toNat)⟩ : S32)] : List S32))) else none) else none) else none)
set_option maxHeartbeats 1000000 in
theorem tarrylaw03_few.r5_eq (k : Nat) (l0_1 : List S32) (l81 : List ByteArray)  (hs : ((l0_1.take ((mn (l0_1.length : Int) 66).toNat)).drop 0).length < 4611686018427387904) : ∀ (m i292 : Nat) (l295 : List S32), ((l0_1.take ((mn (l0_1.length : Int) 66).toNat)).drop 0).length < m + i292 → i292 ≤ ((l0_1.take ((mn (l0_1.length : Int) 66).toNat)).drop 0).length → tarrylaw03_few.l5 k l0_1 l81 m (i292 : Int) l295 = tarrylaw03_few.r5 k l0_1 l81 (((l0_1.take ((mn (l0_1.length : Int) 66).toNat)).drop 0).drop i292) l295 := by
  intro m
  induction m with
  | zero => intro i292 l295 h hi; omega
  | succ m ih =>
    intro i292 l295 h hi
    by_cases hc : i292 < ((l0_1.take ((mn (l0_1.length : Int) 66).toNat)).drop 0).length
    · have hw : wrap64 ((i292 : Int) + 1) = ((i292 + 1 : Nat) : Int) := by unfold wrap64; omega
      have hg : ((l0_1.take ((mn (l0_1.length : Int) 66).toNat)).drop 0)[(i292 : Int).toNat]? = some ((l0_1.take ((mn (l0_1.length : Int) 66).toNat)).drop 0)[i292] := by rw [Int.toNat_natCast]; exact List.getElem?_eq_getElem hc
      have ih2 := fun l295 => ih (i292 + 1) l295 (by omega) (by omega)
      rw [List.drop_eq_getElem_cons hc, tarrylaw03_few.l5, tarrylaw03_few.r5, if_pos (by omega), if_pos (by omega), hg, Option.bind_some]
      simp only [hw, ih2]
    · rw [List.drop_of_length_le (by omega), tarrylaw03_few.l5, tarrylaw03_few.r5, if_neg (by omega)]
def tarrylaw03_few.r1 (k : Nat) (l0_0 : List ByteArray) (l0_1 : List S32) : List ByteArray → (List ByteArray) → Option (List ByteArray × List S32)
  | [], l81 => (if 0 ≤ mn (l0_1.length : Int) 66 then (if (mn (l0_1.length : Int) 66) ≤ (l0_1.length : Int) then (tarrylaw03_few.r5 k l0_1 l81 ((l0_1.take ((mn (l0_1.length : Int) 66).toNat)).drop 0) ([] : List S32)) else none) else none)
  | x209 :: xsi78, l81 => (if 0 ≤ mn (x209.size : Int) 66 then (if (mn (x209.size : Int) 66) ≤ (x209.size : Int) then (if (l81.length + ([x209.extract 0 ((mn (x209.size : Int) 66).toNat)] : List ByteArray).length) * 16 ≤ 140737488355328 then (tarrylaw03_few.r1 k l0_0 l0_1 xsi78 (l81 ++ ([x209.extract 0 ((mn (x209.size : Int) 66).toNat)] : List ByteArray))) else none) else none) else none)
set_option maxHeartbeats 1000000 in
theorem tarrylaw03_few.r1_eq (k : Nat) (l0_0 : List ByteArray) (l0_1 : List S32) (hl5_0 : ((l0_1.take ((mn (l0_1.length : Int) 66).toNat)).drop 0).length < k ∧ ((l0_1.take ((mn (l0_1.length : Int) 66).toNat)).drop 0).length < 4611686018427387904) (hs : ((l0_0.take ((mn (l0_0.length : Int) 20).toNat)).drop 0).length < 4611686018427387904) : ∀ (m i78 : Nat) (l81 : List ByteArray), ((l0_0.take ((mn (l0_0.length : Int) 20).toNat)).drop 0).length < m + i78 → i78 ≤ ((l0_0.take ((mn (l0_0.length : Int) 20).toNat)).drop 0).length → tarrylaw03_few.l1 k l0_0 l0_1 m (i78 : Int) l81 = tarrylaw03_few.r1 k l0_0 l0_1 (((l0_0.take ((mn (l0_0.length : Int) 20).toNat)).drop 0).drop i78) l81 := by
  intro m
  induction m with
  | zero => intro i78 l81 h hi; omega
  | succ m ih =>
    intro i78 l81 h hi
    by_cases hc : i78 < ((l0_0.take ((mn (l0_0.length : Int) 20).toNat)).drop 0).length
    · have hw : wrap64 ((i78 : Int) + 1) = ((i78 + 1 : Nat) : Int) := by unfold wrap64; omega
      have hg : ((l0_0.take ((mn (l0_0.length : Int) 20).toNat)).drop 0)[(i78 : Int).toNat]? = some ((l0_0.take ((mn (l0_0.length : Int) 20).toNat)).drop 0)[i78] := by rw [Int.toNat_natCast]; exact List.getElem?_eq_getElem hc
      have ih2 := fun l81 => ih (i78 + 1) l81 (by omega) (by omega)
      rw [List.drop_eq_getElem_cons hc, tarrylaw03_few.l1, tarrylaw03_few.r1, if_pos (by omega), if_pos (by omega), hg, Option.bind_some]
      have el5 : ∀ (l81 : List ByteArray) (l295 : List S32), tarrylaw03_few.l5 k l0_1 l81 k 0 l295 = tarrylaw03_few.r5 k l0_1 l81 ((l0_1.take ((mn (l0_1.length : Int) 66).toNat)).drop 0) l295 := fun l81 l295 => tarrylaw03_few.r5_eq k l0_1 l81 (hl5_0).2 k 0 l295 (by have := (hl5_0).1; omega) (Nat.zero_le _)
      simp only [el5, hw, ih2]
    · rw [List.drop_of_length_le (by omega), tarrylaw03_few.l1, tarrylaw03_few.r1, if_neg (by omega)]
      have el5 : ∀ (l81 : List ByteArray) (l295 : List S32), tarrylaw03_few.l5 k l0_1 l81 k 0 l295 = tarrylaw03_few.r5 k l0_1 l81 ((l0_1.take ((mn (l0_1.length : Int) 66).toNat)).drop 0) l295 := fun l81 l295 => tarrylaw03_few.r5_eq k l0_1 l81 (hl5_0).2 k 0 l295 (by have := (hl5_0).1; omega) (Nat.zero_le _)
      try simp only [el5]
      try simp only [Int.natCast_zero]
def slices_IndexFunc_string_string.r1 (k : Nat) (l0 : List ByteArray) : List ByteArray → Nat → Option (Int)
  | [], i419 => (some (-1))
  | x448 :: xsi419, i419 => ((disk_Right_1.f x448).bind fun t451 => (if t451 = true then (some (i419 : Int)) else (slices_IndexFunc_string_string.r1 k l0 xsi419 (i419 + 1))))
set_option maxHeartbeats 1000000 in
theorem slices_IndexFunc_string_string.r1_eq (k : Nat) (l0 : List ByteArray)  (hs : l0.length < 4611686018427387904) : ∀ (m i419 : Nat), l0.length < m + i419 → i419 ≤ l0.length → slices_IndexFunc_string_string.l1 k l0 m (i419 : Int) = slices_IndexFunc_string_string.r1 k l0 (l0.drop i419) i419 := by
  intro m
  induction m with
  | zero => intro i419 h hi; omega
  | succ m ih =>
    intro i419 h hi
    by_cases hc : i419 < l0.length
    · have hw : wrap64 ((i419 : Int) + 1) = ((i419 + 1 : Nat) : Int) := by unfold wrap64; omega
      have hg : l0[(i419 : Int).toNat]? = some l0[i419] := by rw [Int.toNat_natCast]; exact List.getElem?_eq_getElem hc
      have ih2 := ih (i419 + 1) (by omega) (by omega)
      rw [List.drop_eq_getElem_cons hc, slices_IndexFunc_string_string.l1, slices_IndexFunc_string_string.r1, if_pos (by omega), if_pos (by omega), hg, Option.bind_some]
      simp only [hw, ih2]
    · rw [List.drop_of_length_le (by omega), slices_IndexFunc_string_string.l1, slices_IndexFunc_string_string.r1, if_neg (by omega)]
def slices_IndexFunc_api_Write_api_Write.r1 (k : Nat) (a1_0_0 : Int) (l0 : List S32) : List S32 → Nat → Option (Int)
  | [], i540 => (some (-1))
  | x569 :: xsi540, i540 => ((disk_Right_2.f x569.f0 x569.f1 a1_0_0).bind fun t572 => (if t572 = true then (some (i540 : Int)) else (slices_IndexFunc_api_Write_api_Write.r1 k a1_0_0 l0 xsi540 (i540 + 1))))
set_option maxHeartbeats 1000000 in
theorem slices_IndexFunc_api_Write_api_Write.r1_eq (k : Nat) (a1_0_0 : Int) (l0 : List S32)  (hs : l0.length < 4611686018427387904) : ∀ (m i540 : Nat), l0.length < m + i540 → i540 ≤ l0.length → slices_IndexFunc_api_Write_api_Write.l1 k a1_0_0 l0 m (i540 : Int) = slices_IndexFunc_api_Write_api_Write.r1 k a1_0_0 l0 (l0.drop i540) i540 := by
  intro m
  induction m with
  | zero => intro i540 h hi; omega
  | succ m ih =>
    intro i540 h hi
    by_cases hc : i540 < l0.length
    · have hw : wrap64 ((i540 : Int) + 1) = ((i540 + 1 : Nat) : Int) := by unfold wrap64; omega
      have hg : l0[(i540 : Int).toNat]? = some l0[i540] := by rw [Int.toNat_natCast]; exact List.getElem?_eq_getElem hc
      have ih2 := ih (i540 + 1) (by omega) (by omega)
      rw [List.drop_eq_getElem_cons hc, slices_IndexFunc_api_Write_api_Write.l1, slices_IndexFunc_api_Write_api_Write.r1, if_pos (by omega), if_pos (by omega), hg, Option.bind_some]
      simp only [hw, ih2]
    · rw [List.drop_of_length_le (by omega), slices_IndexFunc_api_Write_api_Write.l1, slices_IndexFunc_api_Write_api_Write.r1, if_neg (by omega)]
def disk_Crash.r3 (k : Nat) (a1 : Int) (a2 : Int) (l0_1 : List S32) : List S32 → Nat → (List ByteArray) → Int → Option (List ByteArray × List S32 × Int)
  | [], i1146, l1144, i1145 => (disk_Crash.j2 k a2 l0_1 l1144 i1145)
  | x1193 :: xsi1146, i1146, l1144, i1145 => (if (Go.bits .and .u64 (a1.fdiv (2 ^ min (i1146 : Int).toNat IntKind.u64.bits)) 1) = 1 then (if 0 ≤ x1193.f0 then ((l1144[x1193.f0.toNat]?).bind fun x1200 => (disk_Crash.r3 k a1 a2 l0_1 xsi1146 (i1146 + 1) (l1144.set x1193.f0.toNat x1193.f1) i1145)) else none) else (disk_Crash.r3 k a1 a2 l0_1 xsi1146 (i1146 + 1) l1144 (i1146 : Int)))
set_option maxHeartbeats 1000000 in
theorem disk_Crash.r3_eq (k : Nat) (a1 : Int) (a2 : Int) (l0_1 : List S32)  (hs : l0_1.length < 4611686018427387904) : ∀ (m i1146 : Nat) (l1144 : List ByteArray) (i1145 : Int), l0_1.length < m + i1146 → i1146 ≤ l0_1.length → disk_Crash.l3 k a1 a2 l0_1 m l1144 i1145 (i1146 : Int) = disk_Crash.r3 k a1 a2 l0_1 (l0_1.drop i1146) i1146 l1144 i1145 := by
  intro m
  induction m with
  | zero => intro i1146 l1144 i1145 h hi; omega
  | succ m ih =>
    intro i1146 l1144 i1145 h hi
    by_cases hc : i1146 < l0_1.length
    · have hw : wrap64 ((i1146 : Int) + 1) = ((i1146 + 1 : Nat) : Int) := by unfold wrap64; omega
      have hg : l0_1[(i1146 : Int).toNat]? = some l0_1[i1146] := by rw [Int.toNat_natCast]; exact List.getElem?_eq_getElem hc
      have ih2 := fun l1144 i1145 => ih (i1146 + 1) l1144 i1145 (by omega) (by omega)
      rw [List.drop_eq_getElem_cons hc, disk_Crash.l3, disk_Crash.r3, if_pos (by omega), if_pos (by omega), hg, Option.bind_some]
      simp only [hw, ih2]
    · rw [List.drop_of_length_le (by omega), disk_Crash.l3, disk_Crash.r3, if_neg (by omega)]
-- disk_Get.l0: no index
def tarryref03_Like.r5 (k : Nat) (l0_1 : List S32) (l1_1 : List S32) : List S32 → Nat → Option (Bool)
  | [], i1733 => (some true)
  | x1756 :: xsi1733, i1733 => ((l1_1[(i1733 : Int).toNat]?).bind fun x1757 => (if (((x1756.f0 == x1757.f0) && (x1756.f1 == x1757.f1))) = true then (tarryref03_Like.r5 k l0_1 l1_1 xsi1733 (i1733 + 1)) else (some false)))
set_option maxHeartbeats 1000000 in
theorem tarryref03_Like.r5_eq (k : Nat) (l0_1 : List S32) (l1_1 : List S32)  (hs : l0_1.length < 4611686018427387904) : ∀ (m i1733 : Nat), l0_1.length < m + i1733 → i1733 ≤ l0_1.length → tarryref03_Like.l5 k l0_1 l1_1 m (i1733 : Int) = tarryref03_Like.r5 k l0_1 l1_1 (l0_1.drop i1733) i1733 := by
  intro m
  induction m with
  | zero => intro i1733 h hi; omega
  | succ m ih =>
    intro i1733 h hi
    by_cases hc : i1733 < l0_1.length
    · have hw : wrap64 ((i1733 : Int) + 1) = ((i1733 + 1 : Nat) : Int) := by unfold wrap64; omega
      have hg : l0_1[(i1733 : Int).toNat]? = some l0_1[i1733] := by rw [Int.toNat_natCast]; exact List.getElem?_eq_getElem hc
      have ih2 := ih (i1733 + 1) (by omega) (by omega)
      rw [List.drop_eq_getElem_cons hc, tarryref03_Like.l5, tarryref03_Like.r5, if_pos (by omega), if_pos (by omega), hg, Option.bind_some]
      simp only [hw, ih2]
    · rw [List.drop_of_length_le (by omega), tarryref03_Like.l5, tarryref03_Like.r5, if_neg (by omega)]
def tarryref03_Like.r1 (k : Nat) (l0_0 : List ByteArray) (l0_1 : List S32) (l1_0 : List ByteArray) (l1_1 : List S32) : List ByteArray → Nat → Option (Bool)
  | [], i1577 => (tarryref03_Like.r5 k l0_1 l1_1 l0_1 0)
  | x1680 :: xsi1577, i1577 => ((l1_0[(i1577 : Int).toNat]?).bind fun x1681 => (if (x1680 == x1681) = true then (tarryref03_Like.r1 k l0_0 l0_1 l1_0 l1_1 xsi1577 (i1577 + 1)) else (some false)))
set_option maxHeartbeats 1000000 in
theorem tarryref03_Like.r1_eq (k : Nat) (l0_0 : List ByteArray) (l0_1 : List S32) (l1_0 : List ByteArray) (l1_1 : List S32) (hl5_0 : l0_1.length < k ∧ l0_1.length < 4611686018427387904) (hs : l0_0.length < 4611686018427387904) : ∀ (m i1577 : Nat), l0_0.length < m + i1577 → i1577 ≤ l0_0.length → tarryref03_Like.l1 k l0_0 l0_1 l1_0 l1_1 m (i1577 : Int) = tarryref03_Like.r1 k l0_0 l0_1 l1_0 l1_1 (l0_0.drop i1577) i1577 := by
  intro m
  induction m with
  | zero => intro i1577 h hi; omega
  | succ m ih =>
    intro i1577 h hi
    by_cases hc : i1577 < l0_0.length
    · have hw : wrap64 ((i1577 : Int) + 1) = ((i1577 + 1 : Nat) : Int) := by unfold wrap64; omega
      have hg : l0_0[(i1577 : Int).toNat]? = some l0_0[i1577] := by rw [Int.toNat_natCast]; exact List.getElem?_eq_getElem hc
      have ih2 := ih (i1577 + 1) (by omega) (by omega)
      rw [List.drop_eq_getElem_cons hc, tarryref03_Like.l1, tarryref03_Like.r1, if_pos (by omega), if_pos (by omega), hg, Option.bind_some]
      have el5 : tarryref03_Like.l5 k l0_1 l1_1 k 0 = tarryref03_Like.r5 k l0_1 l1_1 l0_1 0 := tarryref03_Like.r5_eq k l0_1 l1_1 (hl5_0).2 k 0 (by have := (hl5_0).1; omega) (Nat.zero_le _)
      simp only [el5, hw, ih2]
    · rw [List.drop_of_length_le (by omega), tarryref03_Like.l1, tarryref03_Like.r1, if_neg (by omega)]
      have el5 : tarryref03_Like.l5 k l0_1 l1_1 k 0 = tarryref03_Like.r5 k l0_1 l1_1 l0_1 0 := tarryref03_Like.r5_eq k l0_1 l1_1 (hl5_0).2 k 0 (by have := (hl5_0).1; omega) (Nat.zero_le _)
      try simp only [el5]
      try simp only [Int.natCast_zero]
-- tarrylaw03_DiskReads.l1: a list of no known type

end Go.Proofs.Ytlfkendmepdbkaa.PDiskReads
