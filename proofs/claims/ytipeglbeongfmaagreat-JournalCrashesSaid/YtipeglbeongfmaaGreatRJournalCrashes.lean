/- Written by a program of this repo: what the program's functions do, each as a Lean function, shown of the loaded code; or a statement's row over that; no condition of its own. -/
import Derived.Test.YtipeglbeongfmaaGreatPJournalCrashesx0
namespace Go.Proofs.YtipeglbeongfmaaGreat.PJournalCrashes
open Go Go.RowKit Go.Proofs.YtipeglbeongfmaaGreatV
set_option linter.unusedVariables false
set_option linter.unusedSimpArgs false

def tarrylaw05_disk.r5 (k : Nat) (l0_1 : List S71) (l89 : List ByteArray) : List S71 → (List S71) → Option (List ByteArray × List S71)
  | [], l303 => (some (l89, l303))
  | x324 :: xsi300, l303 => (if 0 ≤ mn (x324.f1.size : Int) 66 then (if (mn (x324.f1.size : Int) 66) ≤ (x324.f1.size : Int) then (if (l303.length + ([(⟨x324.f0, x324.f1.extract 0 ((mn (x324.f1.size : Int) 66).toNat)⟩ : S71)] : List S71).length) * 24 ≤ 140737488355328 then (tarrylaw05_disk.r5 k l0_1 l89 xsi300 (l303 ++ ([(⟨x324.f0, x324.f1.extract 0 ((mn (x324.f1.size : Int) 66).toNat)⟩ : S71)] : List S71))) else none) else none) else none)
set_option maxHeartbeats 1000000 in
theorem tarrylaw05_disk.r5_eq (k : Nat) (l0_1 : List S71) (l89 : List ByteArray)  (hs : ((l0_1.take ((mn (l0_1.length : Int) 4).toNat)).drop 0).length < 4611686018427387904) : ∀ (m i300 : Nat) (l303 : List S71), ((l0_1.take ((mn (l0_1.length : Int) 4).toNat)).drop 0).length < m + i300 → i300 ≤ ((l0_1.take ((mn (l0_1.length : Int) 4).toNat)).drop 0).length → tarrylaw05_disk.l5 k l0_1 l89 m (i300 : Int) l303 = tarrylaw05_disk.r5 k l0_1 l89 (((l0_1.take ((mn (l0_1.length : Int) 4).toNat)).drop 0).drop i300) l303 := by
  intro m
  induction m with
  | zero => intro i300 l303 h hi; omega
  | succ m ih =>
    intro i300 l303 h hi
    by_cases hc : i300 < ((l0_1.take ((mn (l0_1.length : Int) 4).toNat)).drop 0).length
    · have hw : wrap64 ((i300 : Int) + 1) = ((i300 + 1 : Nat) : Int) := by unfold wrap64; omega
      have hg : ((l0_1.take ((mn (l0_1.length : Int) 4).toNat)).drop 0)[(i300 : Int).toNat]? = some ((l0_1.take ((mn (l0_1.length : Int) 4).toNat)).drop 0)[i300] := by rw [Int.toNat_natCast]; exact List.getElem?_eq_getElem hc
      have ih2 := fun l303 => ih (i300 + 1) l303 (by omega) (by omega)
      rw [List.drop_eq_getElem_cons hc, tarrylaw05_disk.l5, tarrylaw05_disk.r5, if_pos (by omega), if_pos (by omega), hg, Option.bind_some]
      simp only [hw, ih2]
    · rw [List.drop_of_length_le (by omega), tarrylaw05_disk.l5, tarrylaw05_disk.r5, if_neg (by omega)]
def tarrylaw05_disk.r1 (k : Nat) (l0_0 : List ByteArray) (l0_1 : List S71) : List ByteArray → (List ByteArray) → Option (List ByteArray × List S71)
  | [], l89 => (if 0 ≤ mn (l0_1.length : Int) 4 then (if (mn (l0_1.length : Int) 4) ≤ (l0_1.length : Int) then (tarrylaw05_disk.r5 k l0_1 l89 ((l0_1.take ((mn (l0_1.length : Int) 4).toNat)).drop 0) ([] : List S71)) else none) else none)
  | x217 :: xsi86, l89 => (if 0 ≤ mn (x217.size : Int) 66 then (if (mn (x217.size : Int) 66) ≤ (x217.size : Int) then (if (l89.length + ([x217.extract 0 ((mn (x217.size : Int) 66).toNat)] : List ByteArray).length) * 16 ≤ 140737488355328 then (tarrylaw05_disk.r1 k l0_0 l0_1 xsi86 (l89 ++ ([x217.extract 0 ((mn (x217.size : Int) 66).toNat)] : List ByteArray))) else none) else none) else none)
set_option maxHeartbeats 1000000 in
theorem tarrylaw05_disk.r1_eq (k : Nat) (l0_0 : List ByteArray) (l0_1 : List S71) (hl5_0 : ((l0_1.take ((mn (l0_1.length : Int) 4).toNat)).drop 0).length < k ∧ ((l0_1.take ((mn (l0_1.length : Int) 4).toNat)).drop 0).length < 4611686018427387904) (hs : ((l0_0.take ((mn (l0_0.length : Int) 30).toNat)).drop 0).length < 4611686018427387904) : ∀ (m i86 : Nat) (l89 : List ByteArray), ((l0_0.take ((mn (l0_0.length : Int) 30).toNat)).drop 0).length < m + i86 → i86 ≤ ((l0_0.take ((mn (l0_0.length : Int) 30).toNat)).drop 0).length → tarrylaw05_disk.l1 k l0_0 l0_1 m (i86 : Int) l89 = tarrylaw05_disk.r1 k l0_0 l0_1 (((l0_0.take ((mn (l0_0.length : Int) 30).toNat)).drop 0).drop i86) l89 := by
  intro m
  induction m with
  | zero => intro i86 l89 h hi; omega
  | succ m ih =>
    intro i86 l89 h hi
    by_cases hc : i86 < ((l0_0.take ((mn (l0_0.length : Int) 30).toNat)).drop 0).length
    · have hw : wrap64 ((i86 : Int) + 1) = ((i86 + 1 : Nat) : Int) := by unfold wrap64; omega
      have hg : ((l0_0.take ((mn (l0_0.length : Int) 30).toNat)).drop 0)[(i86 : Int).toNat]? = some ((l0_0.take ((mn (l0_0.length : Int) 30).toNat)).drop 0)[i86] := by rw [Int.toNat_natCast]; exact List.getElem?_eq_getElem hc
      have ih2 := fun l89 => ih (i86 + 1) l89 (by omega) (by omega)
      rw [List.drop_eq_getElem_cons hc, tarrylaw05_disk.l1, tarrylaw05_disk.r1, if_pos (by omega), if_pos (by omega), hg, Option.bind_some]
      have el5 : ∀ (l89 : List ByteArray) (l303 : List S71), tarrylaw05_disk.l5 k l0_1 l89 k 0 l303 = tarrylaw05_disk.r5 k l0_1 l89 ((l0_1.take ((mn (l0_1.length : Int) 4).toNat)).drop 0) l303 := fun l89 l303 => tarrylaw05_disk.r5_eq k l0_1 l89 (hl5_0).2 k 0 l303 (by have := (hl5_0).1; omega) (Nat.zero_le _)
      simp only [el5, hw, ih2]
    · rw [List.drop_of_length_le (by omega), tarrylaw05_disk.l1, tarrylaw05_disk.r1, if_neg (by omega)]
      have el5 : ∀ (l89 : List ByteArray) (l303 : List S71), tarrylaw05_disk.l5 k l0_1 l89 k 0 l303 = tarrylaw05_disk.r5 k l0_1 l89 ((l0_1.take ((mn (l0_1.length : Int) 4).toNat)).drop 0) l303 := fun l89 l303 => tarrylaw05_disk.r5_eq k l0_1 l89 (hl5_0).2 k 0 l303 (by have := (hl5_0).1; omega) (Nat.zero_le _)
      try simp only [el5]
      try simp only [Int.natCast_zero]
def tarrylaw05_texts.r1 (k : Nat) (a1 : Int) (l0 : List ByteArray) : List ByteArray → (List ByteArray) → Option (List ByteArray)
  | [], l414 => (some l414)
  | x435 :: xsi416, l414 => (if 0 ≤ mn (x435.size : Int) 1002 then (if (mn (x435.size : Int) 1002) ≤ (x435.size : Int) then (if (l414.length + ([x435.extract 0 ((mn (x435.size : Int) 1002).toNat)] : List ByteArray).length) * 16 ≤ 140737488355328 then (tarrylaw05_texts.r1 k a1 l0 xsi416 (l414 ++ ([x435.extract 0 ((mn (x435.size : Int) 1002).toNat)] : List ByteArray))) else none) else none) else none)
set_option maxHeartbeats 1000000 in
theorem tarrylaw05_texts.r1_eq (k : Nat) (a1 : Int) (l0 : List ByteArray)  (hs : ((l0.take ((mn (l0.length : Int) a1).toNat)).drop 0).length < 4611686018427387904) : ∀ (m i416 : Nat) (l414 : List ByteArray), ((l0.take ((mn (l0.length : Int) a1).toNat)).drop 0).length < m + i416 → i416 ≤ ((l0.take ((mn (l0.length : Int) a1).toNat)).drop 0).length → tarrylaw05_texts.l1 k a1 l0 m l414 (i416 : Int) = tarrylaw05_texts.r1 k a1 l0 (((l0.take ((mn (l0.length : Int) a1).toNat)).drop 0).drop i416) l414 := by
  intro m
  induction m with
  | zero => intro i416 l414 h hi; omega
  | succ m ih =>
    intro i416 l414 h hi
    by_cases hc : i416 < ((l0.take ((mn (l0.length : Int) a1).toNat)).drop 0).length
    · have hw : wrap64 ((i416 : Int) + 1) = ((i416 + 1 : Nat) : Int) := by unfold wrap64; omega
      have hg : ((l0.take ((mn (l0.length : Int) a1).toNat)).drop 0)[(i416 : Int).toNat]? = some ((l0.take ((mn (l0.length : Int) a1).toNat)).drop 0)[i416] := by rw [Int.toNat_natCast]; exact List.getElem?_eq_getElem hc
      have ih2 := fun l414 => ih (i416 + 1) l414 (by omega) (by omega)
      rw [List.drop_eq_getElem_cons hc, tarrylaw05_texts.l1, tarrylaw05_texts.r1, if_pos (by omega), if_pos (by omega), hg, Option.bind_some]
      simp only [hw, ih2]
    · rw [List.drop_of_length_le (by omega), tarrylaw05_texts.l1, tarrylaw05_texts.r1, if_neg (by omega)]
def slices_IndexFunc_string_string.r1 (k : Nat) (l0 : List ByteArray) : List ByteArray → Nat → Option (Int)
  | [], i565 => (some (-1))
  | x594 :: xsi565, i565 => ((disk_Right_1.f x594).bind fun t597 => (if t597 = true then (some (i565 : Int)) else (slices_IndexFunc_string_string.r1 k l0 xsi565 (i565 + 1))))
set_option maxHeartbeats 1000000 in
theorem slices_IndexFunc_string_string.r1_eq (k : Nat) (l0 : List ByteArray)  (hs : l0.length < 4611686018427387904) : ∀ (m i565 : Nat), l0.length < m + i565 → i565 ≤ l0.length → slices_IndexFunc_string_string.l1 k l0 m (i565 : Int) = slices_IndexFunc_string_string.r1 k l0 (l0.drop i565) i565 := by
  intro m
  induction m with
  | zero => intro i565 h hi; omega
  | succ m ih =>
    intro i565 h hi
    by_cases hc : i565 < l0.length
    · have hw : wrap64 ((i565 : Int) + 1) = ((i565 + 1 : Nat) : Int) := by unfold wrap64; omega
      have hg : l0[(i565 : Int).toNat]? = some l0[i565] := by rw [Int.toNat_natCast]; exact List.getElem?_eq_getElem hc
      have ih2 := ih (i565 + 1) (by omega) (by omega)
      rw [List.drop_eq_getElem_cons hc, slices_IndexFunc_string_string.l1, slices_IndexFunc_string_string.r1, if_pos (by omega), if_pos (by omega), hg, Option.bind_some]
      simp only [hw, ih2]
    · rw [List.drop_of_length_le (by omega), slices_IndexFunc_string_string.l1, slices_IndexFunc_string_string.r1, if_neg (by omega)]
def slices_IndexFunc_api_Write_api_Write.r1 (k : Nat) (a1_0_0 : Int) (l0 : List S71) : List S71 → Nat → Option (Int)
  | [], i686 => (some (-1))
  | x715 :: xsi686, i686 => ((disk_Right_2.f x715.f0 x715.f1 a1_0_0).bind fun t718 => (if t718 = true then (some (i686 : Int)) else (slices_IndexFunc_api_Write_api_Write.r1 k a1_0_0 l0 xsi686 (i686 + 1))))
set_option maxHeartbeats 1000000 in
theorem slices_IndexFunc_api_Write_api_Write.r1_eq (k : Nat) (a1_0_0 : Int) (l0 : List S71)  (hs : l0.length < 4611686018427387904) : ∀ (m i686 : Nat), l0.length < m + i686 → i686 ≤ l0.length → slices_IndexFunc_api_Write_api_Write.l1 k a1_0_0 l0 m (i686 : Int) = slices_IndexFunc_api_Write_api_Write.r1 k a1_0_0 l0 (l0.drop i686) i686 := by
  intro m
  induction m with
  | zero => intro i686 h hi; omega
  | succ m ih =>
    intro i686 h hi
    by_cases hc : i686 < l0.length
    · have hw : wrap64 ((i686 : Int) + 1) = ((i686 + 1 : Nat) : Int) := by unfold wrap64; omega
      have hg : l0[(i686 : Int).toNat]? = some l0[i686] := by rw [Int.toNat_natCast]; exact List.getElem?_eq_getElem hc
      have ih2 := ih (i686 + 1) (by omega) (by omega)
      rw [List.drop_eq_getElem_cons hc, slices_IndexFunc_api_Write_api_Write.l1, slices_IndexFunc_api_Write_api_Write.r1, if_pos (by omega), if_pos (by omega), hg, Option.bind_some]
      simp only [hw, ih2]
    · rw [List.drop_of_length_le (by omega), slices_IndexFunc_api_Write_api_Write.l1, slices_IndexFunc_api_Write_api_Write.r1, if_neg (by omega)]
-- journal_headOf.l5: no index
-- journal_headOf.l1: no index
-- journal_read.l15: no index
-- journal_read.l11: no index
-- pack_ReadNumber.l3: another shape
-- check_Table.l9: no index
-- check_Table.l5: no index
-- check_On.l1: another shape
-- check_Bytes.l1: no index
-- frame_Scan.l1: no index
def journal_Open.r8 (k : Nat) (l0_0 : List ByteArray) (l0_1 : List S71) : List ByteArray → Nat → (List ByteArray) → (List S71) → Int → Int → Int → (List ByteArray) → (List ByteArray) → Option (List ByteArray × List S71 × Int × Int × Int × List ByteArray × List ByteArray × Int)
  | [], i6373, l6376, l6380, i6382, i6383, i6384, l6387, l6391 => (journal_Open.j7 k l0_0 l0_1 l6376 l6380 i6382 i6383 i6384 l6387 l6391)
  | x6481 :: xsi6373, i6373, l6376, l6380, i6382, i6383, i6384, l6387, l6391 => ((journal_read.f k (i6373 : Int) x6481 (l0_0.length : Int)).bind fun ⟨r6484, r6485, t6486, t6487, t6488, r6489, r6490, t6491⟩ => (if t6491 = true then (if t6486 > i6382 then (journal_Open.r8 k l0_0 l0_1 xsi6373 (i6373 + 1) r6484 r6485 t6486 t6487 t6488 r6489 r6490) else (journal_Open.r8 k l0_0 l0_1 xsi6373 (i6373 + 1) l6376 l6380 i6382 i6383 i6384 l6387 l6391)) else (journal_Open.r8 k l0_0 l0_1 xsi6373 (i6373 + 1) l6376 l6380 i6382 i6383 i6384 l6387 l6391)))
def slices_Equal_string_string.r1 (k : Nat) (l0 : List ByteArray) (l1 : List ByteArray) : List ByteArray → Nat → Option (Bool)
  | [], i6646 => (some true)
  | x6669 :: xsi6646, i6646 => ((l1[(i6646 : Int).toNat]?).bind fun x6670 => (if (x6669 == x6670) = true then (slices_Equal_string_string.r1 k l0 l1 xsi6646 (i6646 + 1)) else (some false)))
set_option maxHeartbeats 1000000 in
theorem slices_Equal_string_string.r1_eq (k : Nat) (l0 : List ByteArray) (l1 : List ByteArray)  (hs : l0.length < 4611686018427387904) : ∀ (m i6646 : Nat), l0.length < m + i6646 → i6646 ≤ l0.length → slices_Equal_string_string.l1 k l0 l1 m (i6646 : Int) = slices_Equal_string_string.r1 k l0 l1 (l0.drop i6646) i6646 := by
  intro m
  induction m with
  | zero => intro i6646 h hi; omega
  | succ m ih =>
    intro i6646 h hi
    by_cases hc : i6646 < l0.length
    · have hw : wrap64 ((i6646 : Int) + 1) = ((i6646 + 1 : Nat) : Int) := by unfold wrap64; omega
      have hg : l0[(i6646 : Int).toNat]? = some l0[i6646] := by rw [Int.toNat_natCast]; exact List.getElem?_eq_getElem hc
      have ih2 := ih (i6646 + 1) (by omega) (by omega)
      rw [List.drop_eq_getElem_cons hc, slices_Equal_string_string.l1, slices_Equal_string_string.r1, if_pos (by omega), if_pos (by omega), hg, Option.bind_some]
      simp only [hw, ih2]
    · rw [List.drop_of_length_le (by omega), slices_Equal_string_string.l1, slices_Equal_string_string.r1, if_neg (by omega)]
def slices_IndexFunc_string_string_s25.r1 (k : Nat) (l0 : List ByteArray) : List ByteArray → Nat → Option (Int)
  | [], i6760 => (some (-1))
  | x6789 :: xsi6760, i6760 => ((journal_waits_1.f x6789).bind fun t6792 => (if t6792 = true then (some (i6760 : Int)) else (slices_IndexFunc_string_string_s25.r1 k l0 xsi6760 (i6760 + 1))))
set_option maxHeartbeats 1000000 in
theorem slices_IndexFunc_string_string_s25.r1_eq (k : Nat) (l0 : List ByteArray)  (hs : l0.length < 4611686018427387904) : ∀ (m i6760 : Nat), l0.length < m + i6760 → i6760 ≤ l0.length → slices_IndexFunc_string_string_s25.l1 k l0 m (i6760 : Int) = slices_IndexFunc_string_string_s25.r1 k l0 (l0.drop i6760) i6760 := by
  intro m
  induction m with
  | zero => intro i6760 h hi; omega
  | succ m ih =>
    intro i6760 h hi
    by_cases hc : i6760 < l0.length
    · have hw : wrap64 ((i6760 : Int) + 1) = ((i6760 + 1 : Nat) : Int) := by unfold wrap64; omega
      have hg : l0[(i6760 : Int).toNat]? = some l0[i6760] := by rw [Int.toNat_natCast]; exact List.getElem?_eq_getElem hc
      have ih2 := ih (i6760 + 1) (by omega) (by omega)
      rw [List.drop_eq_getElem_cons hc, slices_IndexFunc_string_string_s25.l1, slices_IndexFunc_string_string_s25.r1, if_pos (by omega), if_pos (by omega), hg, Option.bind_some]
      simp only [hw, ih2]
    · rw [List.drop_of_length_le (by omega), slices_IndexFunc_string_string_s25.l1, slices_IndexFunc_string_string_s25.r1, if_neg (by omega)]
-- pack_Number.l1: no index
-- pack_Number.l3: no index
-- disk_Get.l0: no index
-- journal_laid.l1: no index
def disk_Crash.r3 (k : Nat) (a1 : Int) (a2 : Int) (l0_1 : List S71) : List S71 → Nat → (List ByteArray) → Int → Option (List ByteArray × List S71 × Int)
  | [], i8162, l8160, i8161 => (disk_Crash.j2 k a2 l0_1 l8160 i8161)
  | x8209 :: xsi8162, i8162, l8160, i8161 => (if (Go.bits .and .u64 (a1.fdiv (2 ^ min (i8162 : Int).toNat IntKind.u64.bits)) 1) = 1 then (if 0 ≤ x8209.f0 then ((l8160[x8209.f0.toNat]?).bind fun x8216 => (disk_Crash.r3 k a1 a2 l0_1 xsi8162 (i8162 + 1) (l8160.set x8209.f0.toNat x8209.f1) i8161)) else none) else (disk_Crash.r3 k a1 a2 l0_1 xsi8162 (i8162 + 1) l8160 (i8162 : Int)))
set_option maxHeartbeats 1000000 in
theorem disk_Crash.r3_eq (k : Nat) (a1 : Int) (a2 : Int) (l0_1 : List S71)  (hs : l0_1.length < 4611686018427387904) : ∀ (m i8162 : Nat) (l8160 : List ByteArray) (i8161 : Int), l0_1.length < m + i8162 → i8162 ≤ l0_1.length → disk_Crash.l3 k a1 a2 l0_1 m l8160 i8161 (i8162 : Int) = disk_Crash.r3 k a1 a2 l0_1 (l0_1.drop i8162) i8162 l8160 i8161 := by
  intro m
  induction m with
  | zero => intro i8162 l8160 i8161 h hi; omega
  | succ m ih =>
    intro i8162 l8160 i8161 h hi
    by_cases hc : i8162 < l0_1.length
    · have hw : wrap64 ((i8162 : Int) + 1) = ((i8162 + 1 : Nat) : Int) := by unfold wrap64; omega
      have hg : l0_1[(i8162 : Int).toNat]? = some l0_1[i8162] := by rw [Int.toNat_natCast]; exact List.getElem?_eq_getElem hc
      have ih2 := fun l8160 i8161 => ih (i8162 + 1) l8160 i8161 (by omega) (by omega)
      rw [List.drop_eq_getElem_cons hc, disk_Crash.l3, disk_Crash.r3, if_pos (by omega), if_pos (by omega), hg, Option.bind_some]
      simp only [hw, ih2]
    · rw [List.drop_of_length_le (by omega), disk_Crash.l3, disk_Crash.r3, if_neg (by omega)]
def tarryref03_Right.r5 (k : Nat) (l0_0 : List ByteArray) (l0_1 : List S71) : List S71 → Option (Bool)
  | [] => (if (l0_0.length : Int) > 0 then (if (l0_0.length : Int) ≤ 512 then (some (decide ((l0_1.length : Int) ≤ 64))) else (some false)) else (some false))
  | x9379 :: xsi9313 => (if x9379.f0 < 0 then (some false) else (if x9379.f0 ≥ (l0_0.length : Int) then (some false) else (if (x9379.f1.size : Int) = 64 then (tarryref03_Right.r5 k l0_0 l0_1 xsi9313) else (some false))))
set_option maxHeartbeats 1000000 in
theorem tarryref03_Right.r5_eq (k : Nat) (l0_0 : List ByteArray) (l0_1 : List S71)  (hs : l0_1.length < 4611686018427387904) : ∀ (m i9313 : Nat), l0_1.length < m + i9313 → i9313 ≤ l0_1.length → tarryref03_Right.l5 k l0_0 l0_1 m (i9313 : Int) = tarryref03_Right.r5 k l0_0 l0_1 (l0_1.drop i9313) := by
  intro m
  induction m with
  | zero => intro i9313 h hi; omega
  | succ m ih =>
    intro i9313 h hi
    by_cases hc : i9313 < l0_1.length
    · have hw : wrap64 ((i9313 : Int) + 1) = ((i9313 + 1 : Nat) : Int) := by unfold wrap64; omega
      have hg : l0_1[(i9313 : Int).toNat]? = some l0_1[i9313] := by rw [Int.toNat_natCast]; exact List.getElem?_eq_getElem hc
      have ih2 := ih (i9313 + 1) (by omega) (by omega)
      rw [List.drop_eq_getElem_cons hc, tarryref03_Right.l5, tarryref03_Right.r5, if_pos (by omega), if_pos (by omega), hg, Option.bind_some]
      simp only [hw, ih2]
    · rw [List.drop_of_length_le (by omega), tarryref03_Right.l5, tarryref03_Right.r5, if_neg (by omega)]
def tarryref03_Right.r1 (k : Nat) (l0_0 : List ByteArray) (l0_1 : List S71) : List ByteArray → Option (Bool)
  | [] => (tarryref03_Right.r5 k l0_0 l0_1 l0_1)
  | x9171 :: xsi8917 => (if (x9171.size : Int) = 64 then (tarryref03_Right.r1 k l0_0 l0_1 xsi8917) else (some false))
set_option maxHeartbeats 1000000 in
theorem tarryref03_Right.r1_eq (k : Nat) (l0_0 : List ByteArray) (l0_1 : List S71) (hl5_0 : l0_1.length < k ∧ l0_1.length < 4611686018427387904) (hs : l0_0.length < 4611686018427387904) : ∀ (m i8917 : Nat), l0_0.length < m + i8917 → i8917 ≤ l0_0.length → tarryref03_Right.l1 k l0_0 l0_1 m (i8917 : Int) = tarryref03_Right.r1 k l0_0 l0_1 (l0_0.drop i8917) := by
  intro m
  induction m with
  | zero => intro i8917 h hi; omega
  | succ m ih =>
    intro i8917 h hi
    by_cases hc : i8917 < l0_0.length
    · have hw : wrap64 ((i8917 : Int) + 1) = ((i8917 + 1 : Nat) : Int) := by unfold wrap64; omega
      have hg : l0_0[(i8917 : Int).toNat]? = some l0_0[i8917] := by rw [Int.toNat_natCast]; exact List.getElem?_eq_getElem hc
      have ih2 := ih (i8917 + 1) (by omega) (by omega)
      rw [List.drop_eq_getElem_cons hc, tarryref03_Right.l1, tarryref03_Right.r1, if_pos (by omega), if_pos (by omega), hg, Option.bind_some]
      have el5 : tarryref03_Right.l5 k l0_0 l0_1 k 0 = tarryref03_Right.r5 k l0_0 l0_1 l0_1 := tarryref03_Right.r5_eq k l0_0 l0_1 (hl5_0).2 k 0 (by have := (hl5_0).1; omega) (Nat.zero_le _)
      simp only [el5, hw, ih2]
    · rw [List.drop_of_length_le (by omega), tarryref03_Right.l1, tarryref03_Right.r1, if_neg (by omega)]
      have el5 : tarryref03_Right.l5 k l0_0 l0_1 k 0 = tarryref03_Right.r5 k l0_0 l0_1 l0_1 := tarryref03_Right.r5_eq k l0_0 l0_1 (hl5_0).2 k 0 (by have := (hl5_0).1; omega) (Nat.zero_le _)
      try simp only [el5]
      try simp only [Int.natCast_zero]
-- tarryref05_number.l1: no index
-- tarryref05_low.l1: no index
-- tarryref05_Head.l1: no index
def tarryref03_Get.r1 (k : Nat) (a1 : Int) (l0_1 : List S71) : List S71 → ByteArray → Option (ByteArray)
  | [], s9879 => (some s9879)
  | x9909 :: xsi9880, s9879 => (if x9909.f0 = a1 then (tarryref03_Get.r1 k a1 l0_1 xsi9880 x9909.f1) else (tarryref03_Get.r1 k a1 l0_1 xsi9880 s9879))
set_option maxHeartbeats 1000000 in
theorem tarryref03_Get.r1_eq (k : Nat) (a1 : Int) (l0_1 : List S71)  (hs : l0_1.length < 4611686018427387904) : ∀ (m i9880 : Nat) (s9879 : ByteArray), l0_1.length < m + i9880 → i9880 ≤ l0_1.length → tarryref03_Get.l1 k a1 l0_1 m s9879 (i9880 : Int) = tarryref03_Get.r1 k a1 l0_1 (l0_1.drop i9880) s9879 := by
  intro m
  induction m with
  | zero => intro i9880 s9879 h hi; omega
  | succ m ih =>
    intro i9880 s9879 h hi
    by_cases hc : i9880 < l0_1.length
    · have hw : wrap64 ((i9880 : Int) + 1) = ((i9880 + 1 : Nat) : Int) := by unfold wrap64; omega
      have hg : l0_1[(i9880 : Int).toNat]? = some l0_1[i9880] := by rw [Int.toNat_natCast]; exact List.getElem?_eq_getElem hc
      have ih2 := fun s9879 => ih (i9880 + 1) s9879 (by omega) (by omega)
      rw [List.drop_eq_getElem_cons hc, tarryref03_Get.l1, tarryref03_Get.r1, if_pos (by omega), if_pos (by omega), hg, Option.bind_some]
      simp only [hw, ih2]
    · rw [List.drop_of_length_le (by omega), tarryref03_Get.l1, tarryref03_Get.r1, if_neg (by omega)]
-- tarryref05_Bytes.l1: another shape
-- tarryref01_ReadNumber.l214: no index
-- tarryref01_ReadNumber.l185: another shape
-- tarryref02_Off.l1: no index
-- tarryref02_On.l1: another shape
-- tarryref02_Bytes.l1: no index
-- tarryref04_Scan.l1: no index
-- tarryref01_Number.l1: no index
-- tarryref01_Number.l3: no index
def tarryref04_Whole.r1 (k : Nat) (l0 : List ByteArray) : List ByteArray → ByteArray → Option (ByteArray)
  | [], s26880 => (some s26880)
  | x26896 :: xsi26881, s26880 => ((tarryref04_Frame.f k x26896).bind fun t26899 => (if s26880.size + t26899.size ≤ 9223372036854775807 then (tarryref04_Whole.r1 k l0 xsi26881 (s26880 ++ t26899)) else none))
set_option maxHeartbeats 1000000 in
theorem tarryref04_Whole.r1_eq (k : Nat) (l0 : List ByteArray)  (hs : l0.length < 4611686018427387904) : ∀ (m i26881 : Nat) (s26880 : ByteArray), l0.length < m + i26881 → i26881 ≤ l0.length → tarryref04_Whole.l1 k l0 m s26880 (i26881 : Int) = tarryref04_Whole.r1 k l0 (l0.drop i26881) s26880 := by
  intro m
  induction m with
  | zero => intro i26881 s26880 h hi; omega
  | succ m ih =>
    intro i26881 s26880 h hi
    by_cases hc : i26881 < l0.length
    · have hw : wrap64 ((i26881 : Int) + 1) = ((i26881 + 1 : Nat) : Int) := by unfold wrap64; omega
      have hg : l0[(i26881 : Int).toNat]? = some l0[i26881] := by rw [Int.toNat_natCast]; exact List.getElem?_eq_getElem hc
      have ih2 := fun s26880 => ih (i26881 + 1) s26880 (by omega) (by omega)
      rw [List.drop_eq_getElem_cons hc, tarryref04_Whole.l1, tarryref04_Whole.r1, if_pos (by omega), if_pos (by omega), hg, Option.bind_some]
      simp only [hw, ih2]
    · rw [List.drop_of_length_le (by omega), tarryref04_Whole.l1, tarryref04_Whole.r1, if_neg (by omega)]
def tarryref01_Same.r1 (k : Nat) (l0 : List ByteArray) (l1 : List ByteArray) : List ByteArray → Nat → Option (Bool)
  | [], i27159 => (some true)
  | x27182 :: xsi27159, i27159 => ((l1[(i27159 : Int).toNat]?).bind fun x27183 => (if (x27182 == x27183) = true then (tarryref01_Same.r1 k l0 l1 xsi27159 (i27159 + 1)) else (some false)))
set_option maxHeartbeats 1000000 in
theorem tarryref01_Same.r1_eq (k : Nat) (l0 : List ByteArray) (l1 : List ByteArray)  (hs : l0.length < 4611686018427387904) : ∀ (m i27159 : Nat), l0.length < m + i27159 → i27159 ≤ l0.length → tarryref01_Same.l1 k l0 l1 m (i27159 : Int) = tarryref01_Same.r1 k l0 l1 (l0.drop i27159) i27159 := by
  intro m
  induction m with
  | zero => intro i27159 h hi; omega
  | succ m ih =>
    intro i27159 h hi
    by_cases hc : i27159 < l0.length
    · have hw : wrap64 ((i27159 : Int) + 1) = ((i27159 + 1 : Nat) : Int) := by unfold wrap64; omega
      have hg : l0[(i27159 : Int).toNat]? = some l0[i27159] := by rw [Int.toNat_natCast]; exact List.getElem?_eq_getElem hc
      have ih2 := ih (i27159 + 1) (by omega) (by omega)
      rw [List.drop_eq_getElem_cons hc, tarryref01_Same.l1, tarryref01_Same.r1, if_pos (by omega), if_pos (by omega), hg, Option.bind_some]
      simp only [hw, ih2]
    · rw [List.drop_of_length_le (by omega), tarryref01_Same.l1, tarryref01_Same.r1, if_neg (by omega)]
def tarryref05_Waits.r1 (k : Nat) (a0_4 : Int) (l0_0 : List ByteArray) (l1 : List ByteArray) : List ByteArray → Option (Int)
  | [] => ((tarryref04_Whole.f k l1).bind fun t27301 => (if (l1.length : Int) > 16 then (some 7) else (if (t27301.size : Int) > 3000 then (some 7) else ((tarryref05_Room.f (l0_0.length : Int)).bind fun t27315 => (if (wrap64 (a0_4 + (t27301.size : Int))) > t27315 then (some 7) else (some 0))))))
  | x27296 :: xsi27252 => (if (x27296.size : Int) > 1000 then (some 3) else (tarryref05_Waits.r1 k a0_4 l0_0 l1 xsi27252))
set_option maxHeartbeats 1000000 in
theorem tarryref05_Waits.r1_eq (k : Nat) (a0_4 : Int) (l0_0 : List ByteArray) (l1 : List ByteArray)  (hs : l1.length < 4611686018427387904) : ∀ (m i27252 : Nat), l1.length < m + i27252 → i27252 ≤ l1.length → tarryref05_Waits.l1 k a0_4 l0_0 l1 m (i27252 : Int) = tarryref05_Waits.r1 k a0_4 l0_0 l1 (l1.drop i27252) := by
  intro m
  induction m with
  | zero => intro i27252 h hi; omega
  | succ m ih =>
    intro i27252 h hi
    by_cases hc : i27252 < l1.length
    · have hw : wrap64 ((i27252 : Int) + 1) = ((i27252 + 1 : Nat) : Int) := by unfold wrap64; omega
      have hg : l1[(i27252 : Int).toNat]? = some l1[i27252] := by rw [Int.toNat_natCast]; exact List.getElem?_eq_getElem hc
      have ih2 := ih (i27252 + 1) (by omega) (by omega)
      rw [List.drop_eq_getElem_cons hc, tarryref05_Waits.l1, tarryref05_Waits.r1, if_pos (by omega), if_pos (by omega), hg, Option.bind_some]
      simp only [hw, ih2]
    · rw [List.drop_of_length_le (by omega), tarryref05_Waits.l1, tarryref05_Waits.r1, if_neg (by omega)]
-- tarryref05_First.l9: no index
-- tarryref05_First.l5: another shape
-- tarryref03_Kept.l1: no index
def tarryref03_Crash.r3 (k : Nat) (a1 : Int) (a2 : Int) (l0_1 : List S71) : List S71 → Nat → (List ByteArray) → Int → Option (List ByteArray × List S71)
  | [], i32844, l32842, i32843 => (tarryref03_Crash.j2 k a2 l0_1 l32842 i32843)
  | x32888 :: xsi32844, i32844, l32842, i32843 => ((tarryref03_Kept.f k a1 (i32844 : Int)).bind fun t32892 => (if t32892 = true then ((tarryref03_Set.f l32842 x32888.f0 x32888.f1).bind fun r32895 => (tarryref03_Crash.r3 k a1 a2 l0_1 xsi32844 (i32844 + 1) r32895 i32843)) else (tarryref03_Crash.r3 k a1 a2 l0_1 xsi32844 (i32844 + 1) l32842 (i32844 : Int))))
set_option maxHeartbeats 1000000 in
theorem tarryref03_Crash.r3_eq (k : Nat) (a1 : Int) (a2 : Int) (l0_1 : List S71)  (hs : l0_1.length < 4611686018427387904) : ∀ (m i32844 : Nat) (l32842 : List ByteArray) (i32843 : Int), l0_1.length < m + i32844 → i32844 ≤ l0_1.length → tarryref03_Crash.l3 k a1 a2 l0_1 m l32842 i32843 (i32844 : Int) = tarryref03_Crash.r3 k a1 a2 l0_1 (l0_1.drop i32844) i32844 l32842 i32843 := by
  intro m
  induction m with
  | zero => intro i32844 l32842 i32843 h hi; omega
  | succ m ih =>
    intro i32844 l32842 i32843 h hi
    by_cases hc : i32844 < l0_1.length
    · have hw : wrap64 ((i32844 : Int) + 1) = ((i32844 + 1 : Nat) : Int) := by unfold wrap64; omega
      have hg : l0_1[(i32844 : Int).toNat]? = some l0_1[i32844] := by rw [Int.toNat_natCast]; exact List.getElem?_eq_getElem hc
      have ih2 := fun l32842 i32843 => ih (i32844 + 1) l32842 i32843 (by omega) (by omega)
      rw [List.drop_eq_getElem_cons hc, tarryref03_Crash.l3, tarryref03_Crash.r3, if_pos (by omega), if_pos (by omega), hg, Option.bind_some]
      simp only [hw, ih2]
    · rw [List.drop_of_length_le (by omega), tarryref03_Crash.l3, tarryref03_Crash.r3, if_neg (by omega)]
def tarryref03_Like.r5 (k : Nat) (l0_1 : List S71) (l1_1 : List S71) : List S71 → Nat → Option (Bool)
  | [], i33282 => (some true)
  | x33305 :: xsi33282, i33282 => ((l1_1[(i33282 : Int).toNat]?).bind fun x33306 => (if (((x33305.f0 == x33306.f0) && (x33305.f1 == x33306.f1))) = true then (tarryref03_Like.r5 k l0_1 l1_1 xsi33282 (i33282 + 1)) else (some false)))
set_option maxHeartbeats 1000000 in
theorem tarryref03_Like.r5_eq (k : Nat) (l0_1 : List S71) (l1_1 : List S71)  (hs : l0_1.length < 4611686018427387904) : ∀ (m i33282 : Nat), l0_1.length < m + i33282 → i33282 ≤ l0_1.length → tarryref03_Like.l5 k l0_1 l1_1 m (i33282 : Int) = tarryref03_Like.r5 k l0_1 l1_1 (l0_1.drop i33282) i33282 := by
  intro m
  induction m with
  | zero => intro i33282 h hi; omega
  | succ m ih =>
    intro i33282 h hi
    by_cases hc : i33282 < l0_1.length
    · have hw : wrap64 ((i33282 : Int) + 1) = ((i33282 + 1 : Nat) : Int) := by unfold wrap64; omega
      have hg : l0_1[(i33282 : Int).toNat]? = some l0_1[i33282] := by rw [Int.toNat_natCast]; exact List.getElem?_eq_getElem hc
      have ih2 := ih (i33282 + 1) (by omega) (by omega)
      rw [List.drop_eq_getElem_cons hc, tarryref03_Like.l5, tarryref03_Like.r5, if_pos (by omega), if_pos (by omega), hg, Option.bind_some]
      simp only [hw, ih2]
    · rw [List.drop_of_length_le (by omega), tarryref03_Like.l5, tarryref03_Like.r5, if_neg (by omega)]
def tarryref03_Like.r1 (k : Nat) (l0_0 : List ByteArray) (l0_1 : List S71) (l1_0 : List ByteArray) (l1_1 : List S71) : List ByteArray → Nat → Option (Bool)
  | [], i33126 => (tarryref03_Like.r5 k l0_1 l1_1 l0_1 0)
  | x33229 :: xsi33126, i33126 => ((l1_0[(i33126 : Int).toNat]?).bind fun x33230 => (if (x33229 == x33230) = true then (tarryref03_Like.r1 k l0_0 l0_1 l1_0 l1_1 xsi33126 (i33126 + 1)) else (some false)))
set_option maxHeartbeats 1000000 in
theorem tarryref03_Like.r1_eq (k : Nat) (l0_0 : List ByteArray) (l0_1 : List S71) (l1_0 : List ByteArray) (l1_1 : List S71) (hl5_0 : l0_1.length < k ∧ l0_1.length < 4611686018427387904) (hs : l0_0.length < 4611686018427387904) : ∀ (m i33126 : Nat), l0_0.length < m + i33126 → i33126 ≤ l0_0.length → tarryref03_Like.l1 k l0_0 l0_1 l1_0 l1_1 m (i33126 : Int) = tarryref03_Like.r1 k l0_0 l0_1 l1_0 l1_1 (l0_0.drop i33126) i33126 := by
  intro m
  induction m with
  | zero => intro i33126 h hi; omega
  | succ m ih =>
    intro i33126 h hi
    by_cases hc : i33126 < l0_0.length
    · have hw : wrap64 ((i33126 : Int) + 1) = ((i33126 + 1 : Nat) : Int) := by unfold wrap64; omega
      have hg : l0_0[(i33126 : Int).toNat]? = some l0_0[i33126] := by rw [Int.toNat_natCast]; exact List.getElem?_eq_getElem hc
      have ih2 := ih (i33126 + 1) (by omega) (by omega)
      rw [List.drop_eq_getElem_cons hc, tarryref03_Like.l1, tarryref03_Like.r1, if_pos (by omega), if_pos (by omega), hg, Option.bind_some]
      have el5 : tarryref03_Like.l5 k l0_1 l1_1 k 0 = tarryref03_Like.r5 k l0_1 l1_1 l0_1 0 := tarryref03_Like.r5_eq k l0_1 l1_1 (hl5_0).2 k 0 (by have := (hl5_0).1; omega) (Nat.zero_le _)
      simp only [el5, hw, ih2]
    · rw [List.drop_of_length_le (by omega), tarryref03_Like.l1, tarryref03_Like.r1, if_neg (by omega)]
      have el5 : tarryref03_Like.l5 k l0_1 l1_1 k 0 = tarryref03_Like.r5 k l0_1 l1_1 l0_1 0 := tarryref03_Like.r5_eq k l0_1 l1_1 (hl5_0).2 k 0 (by have := (hl5_0).1; omega) (Nat.zero_le _)
      try simp only [el5]
      try simp only [Int.natCast_zero]

end Go.Proofs.YtipeglbeongfmaaGreat.PJournalCrashes
