/- Written by a program of this repo: what the program's functions do, each as a Lean function, shown of the loaded code; or a statement's row over that; no condition of its own. -/
import Derived.Test.YtipeglbeongfmaaPJournalKeepsx0
namespace Go.Proofs.Ytipeglbeongfmaa.PJournalKeeps
open Go Go.RowKit Go.Proofs.YtipeglbeongfmaaV
set_option linter.unusedVariables false
set_option linter.unusedSimpArgs false

def tarrylaw05_disk.r5 (k : Nat) (l0_1 : List S55) (l89 : List ByteArray) : List S55 → (List S55) → Option (List ByteArray × List S55)
  | [], l303 => (some (l89, l303))
  | x324 :: xsi300, l303 => (if 0 ≤ mn (x324.f1.size : Int) 66 then (if (mn (x324.f1.size : Int) 66) ≤ (x324.f1.size : Int) then (if (l303.length + ([(⟨x324.f0, x324.f1.extract 0 ((mn (x324.f1.size : Int) 66).toNat)⟩ : S55)] : List S55).length) * 24 ≤ 140737488355328 then (tarrylaw05_disk.r5 k l0_1 l89 xsi300 (l303 ++ ([(⟨x324.f0, x324.f1.extract 0 ((mn (x324.f1.size : Int) 66).toNat)⟩ : S55)] : List S55))) else none) else none) else none)
set_option maxHeartbeats 1000000 in
theorem tarrylaw05_disk.r5_eq (k : Nat) (l0_1 : List S55) (l89 : List ByteArray)  (hs : ((l0_1.take ((mn (l0_1.length : Int) 4).toNat)).drop 0).length < 4611686018427387904) : ∀ (m i300 : Nat) (l303 : List S55), ((l0_1.take ((mn (l0_1.length : Int) 4).toNat)).drop 0).length < m + i300 → i300 ≤ ((l0_1.take ((mn (l0_1.length : Int) 4).toNat)).drop 0).length → tarrylaw05_disk.l5 k l0_1 l89 m (i300 : Int) l303 = tarrylaw05_disk.r5 k l0_1 l89 (((l0_1.take ((mn (l0_1.length : Int) 4).toNat)).drop 0).drop i300) l303 := by
  intro m
  induction m with
  | zero => intro i300 l303 h hi; omega
  | succ m ih =>
    intro i300 l303 h hi
    by_cases hc : i300 < ((l0_1.take ((mn (l0_1.length : Int) 4).toNat)).drop 0).length
    · have hw : wrap64 ((i300 : Int) + 1) = ((i300 + 1 : Nat) : Int) := by unfold wrap64; omega
      have hg : ((l0_1.take ((mn (l0_1.length : Int) 4).toNat)).drop 0)[(i300 : Int).toNat]? = some ((l0_1.take ((mn (l0_1.length : Int) 4).toNat)).drop 0)[i300] := by rw [Int.toNat_natCast]; exact List.getElem?_eq_getElem hc
      have ih2 := fun l303 => ih (i300 + 1) l303 (by omega) (by omega)
      rw [List.drop_eq_getElem_cons hc, tarrylaw05_disk.l5, tarrylaw05_disk.r5, if_pos (by omega), if_pos (by omega), hg, Option.bind_some]
      simp only [hw, ih2]
    · rw [List.drop_of_length_le (by omega), tarrylaw05_disk.l5, tarrylaw05_disk.r5, if_neg (by omega)]
def tarrylaw05_disk.r1 (k : Nat) (l0_0 : List ByteArray) (l0_1 : List S55) : List ByteArray → (List ByteArray) → Option (List ByteArray × List S55)
  | [], l89 => (if 0 ≤ mn (l0_1.length : Int) 4 then (if (mn (l0_1.length : Int) 4) ≤ (l0_1.length : Int) then (tarrylaw05_disk.r5 k l0_1 l89 ((l0_1.take ((mn (l0_1.length : Int) 4).toNat)).drop 0) ([] : List S55)) else none) else none)
  | x217 :: xsi86, l89 => (if 0 ≤ mn (x217.size : Int) 66 then (if (mn (x217.size : Int) 66) ≤ (x217.size : Int) then (if (l89.length + ([x217.extract 0 ((mn (x217.size : Int) 66).toNat)] : List ByteArray).length) * 16 ≤ 140737488355328 then (tarrylaw05_disk.r1 k l0_0 l0_1 xsi86 (l89 ++ ([x217.extract 0 ((mn (x217.size : Int) 66).toNat)] : List ByteArray))) else none) else none) else none)
set_option maxHeartbeats 1000000 in
theorem tarrylaw05_disk.r1_eq (k : Nat) (l0_0 : List ByteArray) (l0_1 : List S55) (hl5_0 : ((l0_1.take ((mn (l0_1.length : Int) 4).toNat)).drop 0).length < k ∧ ((l0_1.take ((mn (l0_1.length : Int) 4).toNat)).drop 0).length < 4611686018427387904) (hs : ((l0_0.take ((mn (l0_0.length : Int) 30).toNat)).drop 0).length < 4611686018427387904) : ∀ (m i86 : Nat) (l89 : List ByteArray), ((l0_0.take ((mn (l0_0.length : Int) 30).toNat)).drop 0).length < m + i86 → i86 ≤ ((l0_0.take ((mn (l0_0.length : Int) 30).toNat)).drop 0).length → tarrylaw05_disk.l1 k l0_0 l0_1 m (i86 : Int) l89 = tarrylaw05_disk.r1 k l0_0 l0_1 (((l0_0.take ((mn (l0_0.length : Int) 30).toNat)).drop 0).drop i86) l89 := by
  intro m
  induction m with
  | zero => intro i86 l89 h hi; omega
  | succ m ih =>
    intro i86 l89 h hi
    by_cases hc : i86 < ((l0_0.take ((mn (l0_0.length : Int) 30).toNat)).drop 0).length
    · have hw : wrap64 ((i86 : Int) + 1) = ((i86 + 1 : Nat) : Int) := by unfold wrap64; omega
      have hg : ((l0_0.take ((mn (l0_0.length : Int) 30).toNat)).drop 0)[(i86 : Int).toNat]? = some ((l0_0.take ((mn (l0_0.length : Int) 30).toNat)).drop 0)[i86] := by rw [Int.toNat_natCast]; exact List.getElem?_eq_getElem hc
      have ih2 := fun l89 => ih (i86 + 1) l89 (by omega) (by omega)
      rw [List.drop_eq_getElem_cons hc, tarrylaw05_disk.l1, tarrylaw05_disk.r1, if_pos (by omega), if_pos (by omega), hg, Option.bind_some]
      have el5 : ∀ (l89 : List ByteArray) (l303 : List S55), tarrylaw05_disk.l5 k l0_1 l89 k 0 l303 = tarrylaw05_disk.r5 k l0_1 l89 ((l0_1.take ((mn (l0_1.length : Int) 4).toNat)).drop 0) l303 := fun l89 l303 => tarrylaw05_disk.r5_eq k l0_1 l89 (hl5_0).2 k 0 l303 (by have := (hl5_0).1; omega) (Nat.zero_le _)
      simp only [el5, hw, ih2]
    · rw [List.drop_of_length_le (by omega), tarrylaw05_disk.l1, tarrylaw05_disk.r1, if_neg (by omega)]
      have el5 : ∀ (l89 : List ByteArray) (l303 : List S55), tarrylaw05_disk.l5 k l0_1 l89 k 0 l303 = tarrylaw05_disk.r5 k l0_1 l89 ((l0_1.take ((mn (l0_1.length : Int) 4).toNat)).drop 0) l303 := fun l89 l303 => tarrylaw05_disk.r5_eq k l0_1 l89 (hl5_0).2 k 0 l303 (by have := (hl5_0).1; omega) (Nat.zero_le _)
      try simp only [el5]
      try simp only [Int.natCast_zero]
def tarrylaw05_texts.r1 (k : Nat) (a1 : Int) (l0 : List ByteArray) : List ByteArray → (List ByteArray) → Option (List ByteArray)
  | [], l414 => (some l414)
  | x435 :: xsi416, l414 => (if 0 ≤ mn (x435.size : Int) 1002 then (if (mn (x435.size : Int) 1002) ≤ (x435.size : Int) then (if (l414.length + ([x435.extract 0 ((mn (x435.size : Int) 1002).toNat)] : List ByteArray).length) * 16 ≤ 140737488355328 then (tarrylaw05_texts.r1 k a1 l0 xsi416 (l414 ++ ([x435.extract 0 ((mn (x435.size : Int) 1002).toNat)] : List ByteArray))) else none) else none) else none)
set_option maxHeartbeats 1000000 in
theorem tarrylaw05_texts.r1_eq (k : Nat) (a1 : Int) (l0 : List ByteArray)  (hs : ((l0.take ((mn (l0.length : Int) a1).toNat)).drop 0).length < 4611686018427387904) : ∀ (m i416 : Nat) (l414 : List ByteArray), ((l0.take ((mn (l0.length : Int) a1).toNat)).drop 0).length < m + i416 → i416 ≤ ((l0.take ((mn (l0.length : Int) a1).toNat)).drop 0).length → tarrylaw05_texts.l1 k a1 l0 m l414 (i416 : Int) = tarrylaw05_texts.r1 k a1 l0 (((l0.take ((mn (l0.length : Int) a1).toNat)).drop 0).drop i416) l414 := by
  intro m
  induction m with
  | zero => intro i416 l414 h hi; omega
  | succ m ih =>
    intro i416 l414 h hi
    by_cases hc : i416 < ((l0.take ((mn (l0.length : Int) a1).toNat)).drop 0).length
    · have hw : wrap64 ((i416 : Int) + 1) = ((i416 + 1 : Nat) : Int) := by unfold wrap64; omega
      have hg : ((l0.take ((mn (l0.length : Int) a1).toNat)).drop 0)[(i416 : Int).toNat]? = some ((l0.take ((mn (l0.length : Int) a1).toNat)).drop 0)[i416] := by rw [Int.toNat_natCast]; exact List.getElem?_eq_getElem hc
      have ih2 := fun l414 => ih (i416 + 1) l414 (by omega) (by omega)
      rw [List.drop_eq_getElem_cons hc, tarrylaw05_texts.l1, tarrylaw05_texts.r1, if_pos (by omega), if_pos (by omega), hg, Option.bind_some]
      simp only [hw, ih2]
    · rw [List.drop_of_length_le (by omega), tarrylaw05_texts.l1, tarrylaw05_texts.r1, if_neg (by omega)]
def slices_IndexFunc_string_string.r1 (k : Nat) (l0 : List ByteArray) : List ByteArray → Nat → Option (Int)
  | [], i567 => (some (-1))
  | x596 :: xsi567, i567 => ((disk_Right_1.f x596).bind fun t599 => (if t599 = true then (some (i567 : Int)) else (slices_IndexFunc_string_string.r1 k l0 xsi567 (i567 + 1))))
set_option maxHeartbeats 1000000 in
theorem slices_IndexFunc_string_string.r1_eq (k : Nat) (l0 : List ByteArray)  (hs : l0.length < 4611686018427387904) : ∀ (m i567 : Nat), l0.length < m + i567 → i567 ≤ l0.length → slices_IndexFunc_string_string.l1 k l0 m (i567 : Int) = slices_IndexFunc_string_string.r1 k l0 (l0.drop i567) i567 := by
  intro m
  induction m with
  | zero => intro i567 h hi; omega
  | succ m ih =>
    intro i567 h hi
    by_cases hc : i567 < l0.length
    · have hw : wrap64 ((i567 : Int) + 1) = ((i567 + 1 : Nat) : Int) := by unfold wrap64; omega
      have hg : l0[(i567 : Int).toNat]? = some l0[i567] := by rw [Int.toNat_natCast]; exact List.getElem?_eq_getElem hc
      have ih2 := ih (i567 + 1) (by omega) (by omega)
      rw [List.drop_eq_getElem_cons hc, slices_IndexFunc_string_string.l1, slices_IndexFunc_string_string.r1, if_pos (by omega), if_pos (by omega), hg, Option.bind_some]
      simp only [hw, ih2]
    · rw [List.drop_of_length_le (by omega), slices_IndexFunc_string_string.l1, slices_IndexFunc_string_string.r1, if_neg (by omega)]
def slices_IndexFunc_api_Write_api_Write.r1 (k : Nat) (a1_0_0 : Int) (l0 : List S55) : List S55 → Nat → Option (Int)
  | [], i688 => (some (-1))
  | x717 :: xsi688, i688 => ((disk_Right_2.f x717.f0 x717.f1 a1_0_0).bind fun t720 => (if t720 = true then (some (i688 : Int)) else (slices_IndexFunc_api_Write_api_Write.r1 k a1_0_0 l0 xsi688 (i688 + 1))))
set_option maxHeartbeats 1000000 in
theorem slices_IndexFunc_api_Write_api_Write.r1_eq (k : Nat) (a1_0_0 : Int) (l0 : List S55)  (hs : l0.length < 4611686018427387904) : ∀ (m i688 : Nat), l0.length < m + i688 → i688 ≤ l0.length → slices_IndexFunc_api_Write_api_Write.l1 k a1_0_0 l0 m (i688 : Int) = slices_IndexFunc_api_Write_api_Write.r1 k a1_0_0 l0 (l0.drop i688) i688 := by
  intro m
  induction m with
  | zero => intro i688 h hi; omega
  | succ m ih =>
    intro i688 h hi
    by_cases hc : i688 < l0.length
    · have hw : wrap64 ((i688 : Int) + 1) = ((i688 + 1 : Nat) : Int) := by unfold wrap64; omega
      have hg : l0[(i688 : Int).toNat]? = some l0[i688] := by rw [Int.toNat_natCast]; exact List.getElem?_eq_getElem hc
      have ih2 := ih (i688 + 1) (by omega) (by omega)
      rw [List.drop_eq_getElem_cons hc, slices_IndexFunc_api_Write_api_Write.l1, slices_IndexFunc_api_Write_api_Write.r1, if_pos (by omega), if_pos (by omega), hg, Option.bind_some]
      simp only [hw, ih2]
    · rw [List.drop_of_length_le (by omega), slices_IndexFunc_api_Write_api_Write.l1, slices_IndexFunc_api_Write_api_Write.r1, if_neg (by omega)]
-- journal_headOf.l5: no index
-- journal_headOf.l1: no index
-- journal_read.l15: no index
-- journal_read.l11: no index
-- pack_ReadNumber.l3: another shape
-- check_Table.l9: no index
-- check_Table.l5: no index
-- check_On.l1: another shape
-- check_Bytes.l1: no index
-- frame_Scan.l1: no index
def journal_Open.r8 (k : Nat) (l0_0 : List ByteArray) (l0_1 : List S55) : List ByteArray → Nat → (List ByteArray) → (List S55) → Int → Int → Int → (List ByteArray) → (List ByteArray) → Option (List ByteArray × List S55 × Int × Int × Int × List ByteArray × List ByteArray × Int)
  | [], i6375, l6378, l6382, i6384, i6385, i6386, l6389, l6393 => (journal_Open.j7 k l0_0 l0_1 l6378 l6382 i6384 i6385 i6386 l6389 l6393)
  | x6483 :: xsi6375, i6375, l6378, l6382, i6384, i6385, i6386, l6389, l6393 => ((journal_read.f k (i6375 : Int) x6483 (l0_0.length : Int)).bind fun ⟨r6486, r6487, t6488, t6489, t6490, r6491, r6492, t6493⟩ => (if t6493 = true then (if t6488 > i6384 then (journal_Open.r8 k l0_0 l0_1 xsi6375 (i6375 + 1) r6486 r6487 t6488 t6489 t6490 r6491 r6492) else (journal_Open.r8 k l0_0 l0_1 xsi6375 (i6375 + 1) l6378 l6382 i6384 i6385 i6386 l6389 l6393)) else (journal_Open.r8 k l0_0 l0_1 xsi6375 (i6375 + 1) l6378 l6382 i6384 i6385 i6386 l6389 l6393)))
set_option maxHeartbeats 1000000 in
theorem journal_Open.r8_eq (k : Nat) (l0_0 : List ByteArray) (l0_1 : List S55)  (hs : ((l0_0.take 2).drop 0).length < 4611686018427387904) : ∀ (m i6375 : Nat) (l6378 : List ByteArray) (l6382 : List S55) (i6384 : Int) (i6385 : Int) (i6386 : Int) (l6389 : List ByteArray) (l6393 : List ByteArray), ((l0_0.take 2).drop 0).length < m + i6375 → i6375 ≤ ((l0_0.take 2).drop 0).length → journal_Open.l8 k l0_0 l0_1 m (i6375 : Int) l6378 l6382 i6384 i6385 i6386 l6389 l6393 = journal_Open.r8 k l0_0 l0_1 (((l0_0.take 2).drop 0).drop i6375) i6375 l6378 l6382 i6384 i6385 i6386 l6389 l6393 := by
  intro m
  induction m with
  | zero => intro i6375 l6378 l6382 i6384 i6385 i6386 l6389 l6393 h hi; omega
  | succ m ih =>
    intro i6375 l6378 l6382 i6384 i6385 i6386 l6389 l6393 h hi
    by_cases hc : i6375 < ((l0_0.take 2).drop 0).length
    · have hw : wrap64 ((i6375 : Int) + 1) = ((i6375 + 1 : Nat) : Int) := by unfold wrap64; omega
      have hg : ((l0_0.take 2).drop 0)[(i6375 : Int).toNat]? = some ((l0_0.take 2).drop 0)[i6375] := by rw [Int.toNat_natCast]; exact List.getElem?_eq_getElem hc
      have ih2 := fun l6378 l6382 i6384 i6385 i6386 l6389 l6393 => ih (i6375 + 1) l6378 l6382 i6384 i6385 i6386 l6389 l6393 (by omega) (by omega)
      rw [List.drop_eq_getElem_cons hc, journal_Open.l8, journal_Open.r8, if_pos (by omega), if_pos (by omega), hg, Option.bind_some]
      simp only [hw, ih2]
    · rw [List.drop_of_length_le (by omega), journal_Open.l8, journal_Open.r8, if_neg (by omega)]
def slices_Equal_string_string.r1 (k : Nat) (l0 : List ByteArray) (l1 : List ByteArray) : List ByteArray → Nat → Option (Bool)
  | [], i6648 => (some true)
  | x6671 :: xsi6648, i6648 => ((l1[(i6648 : Int).toNat]?).bind fun x6672 => (if (x6671 == x6672) = true then (slices_Equal_string_string.r1 k l0 l1 xsi6648 (i6648 + 1)) else (some false)))
set_option maxHeartbeats 1000000 in
theorem slices_Equal_string_string.r1_eq (k : Nat) (l0 : List ByteArray) (l1 : List ByteArray)  (hs : l0.length < 4611686018427387904) : ∀ (m i6648 : Nat), l0.length < m + i6648 → i6648 ≤ l0.length → slices_Equal_string_string.l1 k l0 l1 m (i6648 : Int) = slices_Equal_string_string.r1 k l0 l1 (l0.drop i6648) i6648 := by
  intro m
  induction m with
  | zero => intro i6648 h hi; omega
  | succ m ih =>
    intro i6648 h hi
    by_cases hc : i6648 < l0.length
    · have hw : wrap64 ((i6648 : Int) + 1) = ((i6648 + 1 : Nat) : Int) := by unfold wrap64; omega
      have hg : l0[(i6648 : Int).toNat]? = some l0[i6648] := by rw [Int.toNat_natCast]; exact List.getElem?_eq_getElem hc
      have ih2 := ih (i6648 + 1) (by omega) (by omega)
      rw [List.drop_eq_getElem_cons hc, slices_Equal_string_string.l1, slices_Equal_string_string.r1, if_pos (by omega), if_pos (by omega), hg, Option.bind_some]
      simp only [hw, ih2]
    · rw [List.drop_of_length_le (by omega), slices_Equal_string_string.l1, slices_Equal_string_string.r1, if_neg (by omega)]
def slices_IndexFunc_string_string_s25.r1 (k : Nat) (l0 : List ByteArray) : List ByteArray → Nat → Option (Int)
  | [], i6762 => (some (-1))
  | x6791 :: xsi6762, i6762 => ((journal_waits_1.f x6791).bind fun t6794 => (if t6794 = true then (some (i6762 : Int)) else (slices_IndexFunc_string_string_s25.r1 k l0 xsi6762 (i6762 + 1))))
set_option maxHeartbeats 1000000 in
theorem slices_IndexFunc_string_string_s25.r1_eq (k : Nat) (l0 : List ByteArray)  (hs : l0.length < 4611686018427387904) : ∀ (m i6762 : Nat), l0.length < m + i6762 → i6762 ≤ l0.length → slices_IndexFunc_string_string_s25.l1 k l0 m (i6762 : Int) = slices_IndexFunc_string_string_s25.r1 k l0 (l0.drop i6762) i6762 := by
  intro m
  induction m with
  | zero => intro i6762 h hi; omega
  | succ m ih =>
    intro i6762 h hi
    by_cases hc : i6762 < l0.length
    · have hw : wrap64 ((i6762 : Int) + 1) = ((i6762 + 1 : Nat) : Int) := by unfold wrap64; omega
      have hg : l0[(i6762 : Int).toNat]? = some l0[i6762] := by rw [Int.toNat_natCast]; exact List.getElem?_eq_getElem hc
      have ih2 := ih (i6762 + 1) (by omega) (by omega)
      rw [List.drop_eq_getElem_cons hc, slices_IndexFunc_string_string_s25.l1, slices_IndexFunc_string_string_s25.r1, if_pos (by omega), if_pos (by omega), hg, Option.bind_some]
      simp only [hw, ih2]
    · rw [List.drop_of_length_le (by omega), slices_IndexFunc_string_string_s25.l1, slices_IndexFunc_string_string_s25.r1, if_neg (by omega)]
-- pack_Number.l1: no index
-- pack_Number.l3: no index
-- disk_Get.l0: no index
-- journal_laid.l1: no index
def disk_Crash.r3 (k : Nat) (a1 : Int) (a2 : Int) (l0_1 : List S55) : List S55 → Nat → (List ByteArray) → Int → Option (List ByteArray × List S55 × Int)
  | [], i8164, l8162, i8163 => (disk_Crash.j2 k a2 l0_1 l8162 i8163)
  | x8211 :: xsi8164, i8164, l8162, i8163 => (if (Go.bits .and .u64 (a1.fdiv (2 ^ min (i8164 : Int).toNat IntKind.u64.bits)) 1) = 1 then (if 0 ≤ x8211.f0 then ((l8162[x8211.f0.toNat]?).bind fun x8218 => (disk_Crash.r3 k a1 a2 l0_1 xsi8164 (i8164 + 1) (l8162.set x8211.f0.toNat x8211.f1) i8163)) else none) else (disk_Crash.r3 k a1 a2 l0_1 xsi8164 (i8164 + 1) l8162 (i8164 : Int)))
set_option maxHeartbeats 1000000 in
theorem disk_Crash.r3_eq (k : Nat) (a1 : Int) (a2 : Int) (l0_1 : List S55)  (hs : l0_1.length < 4611686018427387904) : ∀ (m i8164 : Nat) (l8162 : List ByteArray) (i8163 : Int), l0_1.length < m + i8164 → i8164 ≤ l0_1.length → disk_Crash.l3 k a1 a2 l0_1 m l8162 i8163 (i8164 : Int) = disk_Crash.r3 k a1 a2 l0_1 (l0_1.drop i8164) i8164 l8162 i8163 := by
  intro m
  induction m with
  | zero => intro i8164 l8162 i8163 h hi; omega
  | succ m ih =>
    intro i8164 l8162 i8163 h hi
    by_cases hc : i8164 < l0_1.length
    · have hw : wrap64 ((i8164 : Int) + 1) = ((i8164 + 1 : Nat) : Int) := by unfold wrap64; omega
      have hg : l0_1[(i8164 : Int).toNat]? = some l0_1[i8164] := by rw [Int.toNat_natCast]; exact List.getElem?_eq_getElem hc
      have ih2 := fun l8162 i8163 => ih (i8164 + 1) l8162 i8163 (by omega) (by omega)
      rw [List.drop_eq_getElem_cons hc, disk_Crash.l3, disk_Crash.r3, if_pos (by omega), if_pos (by omega), hg, Option.bind_some]
      simp only [hw, ih2]
    · rw [List.drop_of_length_le (by omega), disk_Crash.l3, disk_Crash.r3, if_neg (by omega)]
def tarryref01_Same.r1 (k : Nat) (l0 : List ByteArray) (l1 : List ByteArray) : List ByteArray → Nat → Option (Bool)
  | [], i9539 => (some true)
  | x9562 :: xsi9539, i9539 => ((l1[(i9539 : Int).toNat]?).bind fun x9563 => (if (x9562 == x9563) = true then (tarryref01_Same.r1 k l0 l1 xsi9539 (i9539 + 1)) else (some false)))
set_option maxHeartbeats 1000000 in
theorem tarryref01_Same.r1_eq (k : Nat) (l0 : List ByteArray) (l1 : List ByteArray)  (hs : l0.length < 4611686018427387904) : ∀ (m i9539 : Nat), l0.length < m + i9539 → i9539 ≤ l0.length → tarryref01_Same.l1 k l0 l1 m (i9539 : Int) = tarryref01_Same.r1 k l0 l1 (l0.drop i9539) i9539 := by
  intro m
  induction m with
  | zero => intro i9539 h hi; omega
  | succ m ih =>
    intro i9539 h hi
    by_cases hc : i9539 < l0.length
    · have hw : wrap64 ((i9539 : Int) + 1) = ((i9539 + 1 : Nat) : Int) := by unfold wrap64; omega
      have hg : l0[(i9539 : Int).toNat]? = some l0[i9539] := by rw [Int.toNat_natCast]; exact List.getElem?_eq_getElem hc
      have ih2 := ih (i9539 + 1) (by omega) (by omega)
      rw [List.drop_eq_getElem_cons hc, tarryref01_Same.l1, tarryref01_Same.r1, if_pos (by omega), if_pos (by omega), hg, Option.bind_some]
      simp only [hw, ih2]
    · rw [List.drop_of_length_le (by omega), tarryref01_Same.l1, tarryref01_Same.r1, if_neg (by omega)]

end Go.Proofs.Ytipeglbeongfmaa.PJournalKeeps
