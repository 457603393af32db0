/- Written by a program of this repo: what the program's functions do, each as a Lean function, shown of the loaded code; or a statement's row over that; no condition of its own. -/
import Derived.Test.YtipeglbeongfmaaPJournalUnusedx0
namespace Go.Proofs.Ytipeglbeongfmaa.PJournalUnused
open Go Go.RowKit Go.Proofs.YtipeglbeongfmaaV
set_option linter.unusedVariables false
set_option linter.unusedSimpArgs false

def tarrylaw05_disk.r5 (k : Nat) (l0_1 : List S55) (l89 : List ByteArray) : List S55 → (List S55) → Option (List ByteArray × List S55)
  | [], l303 => (some (l89, l303))
  | x324 :: xsi300, l303 => (if 0 ≤ mn (x324.f1.size : Int) 66 then (if (mn (x324.f1.size : Int) 66) ≤ (x324.f1.size : Int) then (if (l303.length + ([(⟨x324.f0, x324.f1.extract 0 ((mn (x324.f1.size : Int) 66).toNat)⟩ : S55)] : List S55).length) * 24 ≤ 140737488355328 then (tarrylaw05_disk.r5 k l0_1 l89 xsi300 (l303 ++ ([(⟨x324.f0, x324.f1.extract 0 ((mn (x324.f1.size : Int) 66).toNat)⟩ : S55)] : List S55))) else none) else none) else none)
set_option maxHeartbeats 1000000 in
theorem tarrylaw05_disk.r5_eq (k : Nat) (l0_1 : List S55) (l89 : List ByteArray)  (hs : ((l0_1.take ((mn (l0_1.length : Int) 4).toNat)).drop 0).length < 4611686018427387904) : ∀ (m i300 : Nat) (l303 : List S55), ((l0_1.take ((mn (l0_1.length : Int) 4).toNat)).drop 0).length < m + i300 → i300 ≤ ((l0_1.take ((mn (l0_1.length : Int) 4).toNat)).drop 0).length → tarrylaw05_disk.l5 k l0_1 l89 m (i300 : Int) l303 = tarrylaw05_disk.r5 k l0_1 l89 (((l0_1.take ((mn (l0_1.length : Int) 4).toNat)).drop 0).drop i300) l303 := by
  intro m
  induction m with
  | zero => intro i300 l303 h hi; omega
  | succ m ih =>
    intro i300 l303 h hi
    by_cases hc : i300 < ((l0_1.take ((mn (l0_1.length : Int) 4).toNat)).drop 0).length
    · have hw : wrap64 ((i300 : Int) + 1) = ((i300 + 1 : Nat) : Int) := by unfold wrap64; omega
      have hg : ((l0_1.take ((mn (l0_1.length : Int) 4).toNat)).drop 0)[(i300 : Int).toNat]? = some ((l0_1.take ((mn (l0_1.length : Int) 4).toNat)).drop 0)[i300] := by rw [Int.toNat_natCast]; exact List.getElem?_eq_getElem hc
      have ih2 := fun l303 => ih (i300 + 1) l303 (by omega) (by omega)
      rw [List.drop_eq_getElem_cons hc, tarrylaw05_disk.l5, tarrylaw05_disk.r5, if_pos (by omega), if_pos (by omega), hg, Option.bind_some]
      simp only [hw, ih2]
    · rw [List.drop_of_length_le (by omega), tarrylaw05_disk.l5, tarrylaw05_disk.r5, if_neg (by omega)]
def tarrylaw05_disk.r1 (k : Nat) (l0_0 : List ByteArray) (l0_1 : List S55) : List ByteArray → (List ByteArray) → Option (List ByteArray × List S55)
  | [], l89 => (if 0 ≤ mn (l0_1.length : Int) 4 then (if (mn (l0_1.length : Int) 4) ≤ (l0_1.length : Int) then (tarrylaw05_disk.r5 k l0_1 l89 ((l0_1.take ((mn (l0_1.length : Int) 4).toNat)).drop 0) ([] : List S55)) else none) else none)
  | x217 :: xsi86, l89 => (if 0 ≤ mn (x217.size : Int) 66 then (if (mn (x217.size : Int) 66) ≤ (x217.size : Int) then (if (l89.length + ([x217.extract 0 ((mn (x217.size : Int) 66).toNat)] : List ByteArray).length) * 16 ≤ 140737488355328 then (tarrylaw05_disk.r1 k l0_0 l0_1 xsi86 (l89 ++ ([x217.extract 0 ((mn (x217.size : Int) 66).toNat)] : List ByteArray))) else none) else none) else none)
set_option maxHeartbeats 1000000 in
theorem tarrylaw05_disk.r1_eq (k : Nat) (l0_0 : List ByteArray) (l0_1 : List S55) (hl5_0 : ((l0_1.take ((mn (l0_1.length : Int) 4).toNat)).drop 0).length < k ∧ ((l0_1.take ((mn (l0_1.length : Int) 4).toNat)).drop 0).length < 4611686018427387904) (hs : ((l0_0.take ((mn (l0_0.length : Int) 30).toNat)).drop 0).length < 4611686018427387904) : ∀ (m i86 : Nat) (l89 : List ByteArray), ((l0_0.take ((mn (l0_0.length : Int) 30).toNat)).drop 0).length < m + i86 → i86 ≤ ((l0_0.take ((mn (l0_0.length : Int) 30).toNat)).drop 0).length → tarrylaw05_disk.l1 k l0_0 l0_1 m (i86 : Int) l89 = tarrylaw05_disk.r1 k l0_0 l0_1 (((l0_0.take ((mn (l0_0.length : Int) 30).toNat)).drop 0).drop i86) l89 := by
  intro m
  induction m with
  | zero => intro i86 l89 h hi; omega
  | succ m ih =>
    intro i86 l89 h hi
    by_cases hc : i86 < ((l0_0.take ((mn (l0_0.length : Int) 30).toNat)).drop 0).length
    · have hw : wrap64 ((i86 : Int) + 1) = ((i86 + 1 : Nat) : Int) := by unfold wrap64; omega
      have hg : ((l0_0.take ((mn (l0_0.length : Int) 30).toNat)).drop 0)[(i86 : Int).toNat]? = some ((l0_0.take ((mn (l0_0.length : Int) 30).toNat)).drop 0)[i86] := by rw [Int.toNat_natCast]; exact List.getElem?_eq_getElem hc
      have ih2 := fun l89 => ih (i86 + 1) l89 (by omega) (by omega)
      rw [List.drop_eq_getElem_cons hc, tarrylaw05_disk.l1, tarrylaw05_disk.r1, if_pos (by omega), if_pos (by omega), hg, Option.bind_some]
      have el5 : ∀ (l89 : List ByteArray) (l303 : List S55), tarrylaw05_disk.l5 k l0_1 l89 k 0 l303 = tarrylaw05_disk.r5 k l0_1 l89 ((l0_1.take ((mn (l0_1.length : Int) 4).toNat)).drop 0) l303 := fun l89 l303 => tarrylaw05_disk.r5_eq k l0_1 l89 (hl5_0).2 k 0 l303 (by have := (hl5_0).1; omega) (Nat.zero_le _)
      simp only [el5, hw, ih2]
    · rw [List.drop_of_length_le (by omega), tarrylaw05_disk.l1, tarrylaw05_disk.r1, if_neg (by omega)]
      have el5 : ∀ (l89 : List ByteArray) (l303 : List S55), tarrylaw05_disk.l5 k l0_1 l89 k 0 l303 = tarrylaw05_disk.r5 k l0_1 l89 ((l0_1.take ((mn (l0_1.length : Int) 4).toNat)).drop 0) l303 := fun l89 l303 => tarrylaw05_disk.r5_eq k l0_1 l89 (hl5_0).2 k 0 l303 (by have := (hl5_0).1; omega) (Nat.zero_le _)
      try simp only [el5]
      try simp only [Int.natCast_zero]
def tarrylaw05_texts.r1 (k : Nat) (a1 : Int) (l0 : List ByteArray) : List ByteArray → (List ByteArray) → Option (List ByteArray)
  | [], l414 => (some l414)
  | x435 :: xsi416, l414 => (if 0 ≤ mn (x435.size : Int) 1002 then (if (mn (x435.size : Int) 1002) ≤ (x435.size : Int) then (if (l414.length + ([x435.extract 0 ((mn (x435.size : Int) 1002).toNat)] : List ByteArray).length) * 16 ≤ 140737488355328 then (tarrylaw05_texts.r1 k a1 l0 xsi416 (l414 ++ ([x435.extract 0 ((mn (x435.size : Int) 1002).toNat)] : List ByteArray))) else none) else none) else none)
set_option maxHeartbeats 1000000 in
theorem tarrylaw05_texts.r1_eq (k : Nat) (a1 : Int) (l0 : List ByteArray)  (hs : ((l0.take ((mn (l0.length : Int) a1).toNat)).drop 0).length < 4611686018427387904) : ∀ (m i416 : Nat) (l414 : List ByteArray), ((l0.take ((mn (l0.length : Int) a1).toNat)).drop 0).length < m + i416 → i416 ≤ ((l0.take ((mn (l0.length : Int) a1).toNat)).drop 0).length → tarrylaw05_texts.l1 k a1 l0 m l414 (i416 : Int) = tarrylaw05_texts.r1 k a1 l0 (((l0.take ((mn (l0.length : Int) a1).toNat)).drop 0).drop i416) l414 := by
  intro m
  induction m with
  | zero => intro i416 l414 h hi; omega
  | succ m ih =>
    intro i416 l414 h hi
    by_cases hc : i416 < ((l0.take ((mn (l0.length : Int) a1).toNat)).drop 0).length
    · have hw : wrap64 ((i416 : Int) + 1) = ((i416 + 1 : Nat) : Int) := by unfold wrap64; omega
      have hg : ((l0.take ((mn (l0.length : Int) a1).toNat)).drop 0)[(i416 : Int).toNat]? = some ((l0.take ((mn (l0.length : Int) a1).toNat)).drop 0)[i416] := by rw [Int.toNat_natCast]; exact List.getElem?_eq_getElem hc
      have ih2 := fun l414 => ih (i416 + 1) l414 (by omega) (by omega)
      rw [List.drop_eq_getElem_cons hc, tarrylaw05_texts.l1, tarrylaw05_texts.r1, if_pos (by omega), if_pos (by omega), hg, Option.bind_some]
      simp only [hw, ih2]
    · rw [List.drop_of_length_le (by omega), tarrylaw05_texts.l1, tarrylaw05_texts.r1, if_neg (by omega)]
def slices_IndexFunc_string_string.r1 (k : Nat) (l0 : List ByteArray) : List ByteArray → Nat → Option (Int)
  | [], i559 => (some (-1))
  | x588 :: xsi559, i559 => ((disk_Right_1.f x588).bind fun t591 => (if t591 = true then (some (i559 : Int)) else (slices_IndexFunc_string_string.r1 k l0 xsi559 (i559 + 1))))
set_option maxHeartbeats 1000000 in
theorem slices_IndexFunc_string_string.r1_eq (k : Nat) (l0 : List ByteArray)  (hs : l0.length < 4611686018427387904) : ∀ (m i559 : Nat), l0.length < m + i559 → i559 ≤ l0.length → slices_IndexFunc_string_string.l1 k l0 m (i559 : Int) = slices_IndexFunc_string_string.r1 k l0 (l0.drop i559) i559 := by
  intro m
  induction m with
  | zero => intro i559 h hi; omega
  | succ m ih =>
    intro i559 h hi
    by_cases hc : i559 < l0.length
    · have hw : wrap64 ((i559 : Int) + 1) = ((i559 + 1 : Nat) : Int) := by unfold wrap64; omega
      have hg : l0[(i559 : Int).toNat]? = some l0[i559] := by rw [Int.toNat_natCast]; exact List.getElem?_eq_getElem hc
      have ih2 := ih (i559 + 1) (by omega) (by omega)
      rw [List.drop_eq_getElem_cons hc, slices_IndexFunc_string_string.l1, slices_IndexFunc_string_string.r1, if_pos (by omega), if_pos (by omega), hg, Option.bind_some]
      simp only [hw, ih2]
    · rw [List.drop_of_length_le (by omega), slices_IndexFunc_string_string.l1, slices_IndexFunc_string_string.r1, if_neg (by omega)]
def slices_IndexFunc_api_Write_api_Write.r1 (k : Nat) (a1_0_0 : Int) (l0 : List S55) : List S55 → Nat → Option (Int)
  | [], i680 => (some (-1))
  | x709 :: xsi680, i680 => ((disk_Right_2.f x709.f0 x709.f1 a1_0_0).bind fun t712 => (if t712 = true then (some (i680 : Int)) else (slices_IndexFunc_api_Write_api_Write.r1 k a1_0_0 l0 xsi680 (i680 + 1))))
set_option maxHeartbeats 1000000 in
theorem slices_IndexFunc_api_Write_api_Write.r1_eq (k : Nat) (a1_0_0 : Int) (l0 : List S55)  (hs : l0.length < 4611686018427387904) : ∀ (m i680 : Nat), l0.length < m + i680 → i680 ≤ l0.length → slices_IndexFunc_api_Write_api_Write.l1 k a1_0_0 l0 m (i680 : Int) = slices_IndexFunc_api_Write_api_Write.r1 k a1_0_0 l0 (l0.drop i680) i680 := by
  intro m
  induction m with
  | zero => intro i680 h hi; omega
  | succ m ih =>
    intro i680 h hi
    by_cases hc : i680 < l0.length
    · have hw : wrap64 ((i680 : Int) + 1) = ((i680 + 1 : Nat) : Int) := by unfold wrap64; omega
      have hg : l0[(i680 : Int).toNat]? = some l0[i680] := by rw [Int.toNat_natCast]; exact List.getElem?_eq_getElem hc
      have ih2 := ih (i680 + 1) (by omega) (by omega)
      rw [List.drop_eq_getElem_cons hc, slices_IndexFunc_api_Write_api_Write.l1, slices_IndexFunc_api_Write_api_Write.r1, if_pos (by omega), if_pos (by omega), hg, Option.bind_some]
      simp only [hw, ih2]
    · rw [List.drop_of_length_le (by omega), slices_IndexFunc_api_Write_api_Write.l1, slices_IndexFunc_api_Write_api_Write.r1, if_neg (by omega)]
-- journal_headOf.l5: no index
-- journal_headOf.l1: no index
-- journal_read.l15: no index
-- journal_read.l11: no index
-- pack_ReadNumber.l3: another shape
-- check_Table.l9: no index
-- check_Table.l5: no index
-- check_On.l1: another shape
-- check_Bytes.l1: no index
-- frame_Scan.l1: no index
def journal_Open.r8 (k : Nat) (l0_0 : List ByteArray) (l0_1 : List S55) : List ByteArray → Nat → (List ByteArray) → (List S55) → Int → Int → Int → (List ByteArray) → (List ByteArray) → Option (List ByteArray × List S55 × Int × Int × Int × List ByteArray × List ByteArray × Int)
  | [], i6367, l6370, l6374, i6376, i6377, i6378, l6381, l6385 => (journal_Open.j7 k l0_0 l0_1 l6370 l6374 i6376 i6377 i6378 l6381 l6385)
  | x6475 :: xsi6367, i6367, l6370, l6374, i6376, i6377, i6378, l6381, l6385 => ((journal_read.f k (i6367 : Int) x6475 (l0_0.length : Int)).bind fun ⟨r6478, r6479, t6480, t6481, t6482, r6483, r6484, t6485⟩ => (if t6485 = true then (if t6480 > i6376 then (journal_Open.r8 k l0_0 l0_1 xsi6367 (i6367 + 1) r6478 r6479 t6480 t6481 t6482 r6483 r6484) else (journal_Open.r8 k l0_0 l0_1 xsi6367 (i6367 + 1) l6370 l6374 i6376 i6377 i6378 l6381 l6385)) else (journal_Open.r8 k l0_0 l0_1 xsi6367 (i6367 + 1) l6370 l6374 i6376 i6377 i6378 l6381 l6385)))
set_option maxHeartbeats 1000000 in
theorem journal_Open.r8_eq (k : Nat) (l0_0 : List ByteArray) (l0_1 : List S55)  (hs : ((l0_0.take 2).drop 0).length < 4611686018427387904) : ∀ (m i6367 : Nat) (l6370 : List ByteArray) (l6374 : List S55) (i6376 : Int) (i6377 : Int) (i6378 : Int) (l6381 : List ByteArray) (l6385 : List ByteArray), ((l0_0.take 2).drop 0).length < m + i6367 → i6367 ≤ ((l0_0.take 2).drop 0).length → journal_Open.l8 k l0_0 l0_1 m (i6367 : Int) l6370 l6374 i6376 i6377 i6378 l6381 l6385 = journal_Open.r8 k l0_0 l0_1 (((l0_0.take 2).drop 0).drop i6367) i6367 l6370 l6374 i6376 i6377 i6378 l6381 l6385 := by
  intro m
  induction m with
  | zero => intro i6367 l6370 l6374 i6376 i6377 i6378 l6381 l6385 h hi; omega
  | succ m ih =>
    intro i6367 l6370 l6374 i6376 i6377 i6378 l6381 l6385 h hi
    by_cases hc : i6367 < ((l0_0.take 2).drop 0).length
    · have hw : wrap64 ((i6367 : Int) + 1) = ((i6367 + 1 : Nat) : Int) := by unfold wrap64; omega
      have hg : ((l0_0.take 2).drop 0)[(i6367 : Int).toNat]? = some ((l0_0.take 2).drop 0)[i6367] := by rw [Int.toNat_natCast]; exact List.getElem?_eq_getElem hc
      have ih2 := fun l6370 l6374 i6376 i6377 i6378 l6381 l6385 => ih (i6367 + 1) l6370 l6374 i6376 i6377 i6378 l6381 l6385 (by omega) (by omega)
      rw [List.drop_eq_getElem_cons hc, journal_Open.l8, journal_Open.r8, if_pos (by omega), if_pos (by omega), hg, Option.bind_some]
      simp only [hw, ih2]
    · rw [List.drop_of_length_le (by omega), journal_Open.l8, journal_Open.r8, if_neg (by omega)]
def slices_Equal_string_string.r1 (k : Nat) (l0 : List ByteArray) (l1 : List ByteArray) : List ByteArray → Nat → Option (Bool)
  | [], i6640 => (some true)
  | x6663 :: xsi6640, i6640 => ((l1[(i6640 : Int).toNat]?).bind fun x6664 => (if (x6663 == x6664) = true then (slices_Equal_string_string.r1 k l0 l1 xsi6640 (i6640 + 1)) else (some false)))
set_option maxHeartbeats 1000000 in
theorem slices_Equal_string_string.r1_eq (k : Nat) (l0 : List ByteArray) (l1 : List ByteArray)  (hs : l0.length < 4611686018427387904) : ∀ (m i6640 : Nat), l0.length < m + i6640 → i6640 ≤ l0.length → slices_Equal_string_string.l1 k l0 l1 m (i6640 : Int) = slices_Equal_string_string.r1 k l0 l1 (l0.drop i6640) i6640 := by
  intro m
  induction m with
  | zero => intro i6640 h hi; omega
  | succ m ih =>
    intro i6640 h hi
    by_cases hc : i6640 < l0.length
    · have hw : wrap64 ((i6640 : Int) + 1) = ((i6640 + 1 : Nat) : Int) := by unfold wrap64; omega
      have hg : l0[(i6640 : Int).toNat]? = some l0[i6640] := by rw [Int.toNat_natCast]; exact List.getElem?_eq_getElem hc
      have ih2 := ih (i6640 + 1) (by omega) (by omega)
      rw [List.drop_eq_getElem_cons hc, slices_Equal_string_string.l1, slices_Equal_string_string.r1, if_pos (by omega), if_pos (by omega), hg, Option.bind_some]
      simp only [hw, ih2]
    · rw [List.drop_of_length_le (by omega), slices_Equal_string_string.l1, slices_Equal_string_string.r1, if_neg (by omega)]
def slices_IndexFunc_string_string_s25.r1 (k : Nat) (l0 : List ByteArray) : List ByteArray → Nat → Option (Int)
  | [], i6754 => (some (-1))
  | x6783 :: xsi6754, i6754 => ((journal_waits_1.f x6783).bind fun t6786 => (if t6786 = true then (some (i6754 : Int)) else (slices_IndexFunc_string_string_s25.r1 k l0 xsi6754 (i6754 + 1))))
set_option maxHeartbeats 1000000 in
theorem slices_IndexFunc_string_string_s25.r1_eq (k : Nat) (l0 : List ByteArray)  (hs : l0.length < 4611686018427387904) : ∀ (m i6754 : Nat), l0.length < m + i6754 → i6754 ≤ l0.length → slices_IndexFunc_string_string_s25.l1 k l0 m (i6754 : Int) = slices_IndexFunc_string_string_s25.r1 k l0 (l0.drop i6754) i6754 := by
  intro m
  induction m with
  | zero => intro i6754 h hi; omega
  | succ m ih =>
    intro i6754 h hi
    by_cases hc : i6754 < l0.length
    · have hw : wrap64 ((i6754 : Int) + 1) = ((i6754 + 1 : Nat) : Int) := by unfold wrap64; omega
      have hg : l0[(i6754 : Int).toNat]? = some l0[i6754] := by rw [Int.toNat_natCast]; exact List.getElem?_eq_getElem hc
      have ih2 := ih (i6754 + 1) (by omega) (by omega)
      rw [List.drop_eq_getElem_cons hc, slices_IndexFunc_string_string_s25.l1, slices_IndexFunc_string_string_s25.r1, if_pos (by omega), if_pos (by omega), hg, Option.bind_some]
      simp only [hw, ih2]
    · rw [List.drop_of_length_le (by omega), slices_IndexFunc_string_string_s25.l1, slices_IndexFunc_string_string_s25.r1, if_neg (by omega)]
-- pack_Number.l1: no index
-- pack_Number.l3: no index
def disk_Crash.r3 (k : Nat) (a1 : Int) (a2 : Int) (l0_1 : List S55) : List S55 → Nat → (List ByteArray) → Int → Option (List ByteArray × List S55 × Int)
  | [], i7606, l7604, i7605 => (disk_Crash.j2 k a2 l0_1 l7604 i7605)
  | x7653 :: xsi7606, i7606, l7604, i7605 => (if (Go.bits .and .u64 (a1.fdiv (2 ^ min (i7606 : Int).toNat IntKind.u64.bits)) 1) = 1 then (if 0 ≤ x7653.f0 then ((l7604[x7653.f0.toNat]?).bind fun x7660 => (disk_Crash.r3 k a1 a2 l0_1 xsi7606 (i7606 + 1) (l7604.set x7653.f0.toNat x7653.f1) i7605)) else none) else (disk_Crash.r3 k a1 a2 l0_1 xsi7606 (i7606 + 1) l7604 (i7606 : Int)))
set_option maxHeartbeats 1000000 in
theorem disk_Crash.r3_eq (k : Nat) (a1 : Int) (a2 : Int) (l0_1 : List S55)  (hs : l0_1.length < 4611686018427387904) : ∀ (m i7606 : Nat) (l7604 : List ByteArray) (i7605 : Int), l0_1.length < m + i7606 → i7606 ≤ l0_1.length → disk_Crash.l3 k a1 a2 l0_1 m l7604 i7605 (i7606 : Int) = disk_Crash.r3 k a1 a2 l0_1 (l0_1.drop i7606) i7606 l7604 i7605 := by
  intro m
  induction m with
  | zero => intro i7606 l7604 i7605 h hi; omega
  | succ m ih =>
    intro i7606 l7604 i7605 h hi
    by_cases hc : i7606 < l0_1.length
    · have hw : wrap64 ((i7606 : Int) + 1) = ((i7606 + 1 : Nat) : Int) := by unfold wrap64; omega
      have hg : l0_1[(i7606 : Int).toNat]? = some l0_1[i7606] := by rw [Int.toNat_natCast]; exact List.getElem?_eq_getElem hc
      have ih2 := fun l7604 i7605 => ih (i7606 + 1) l7604 i7605 (by omega) (by omega)
      rw [List.drop_eq_getElem_cons hc, disk_Crash.l3, disk_Crash.r3, if_pos (by omega), if_pos (by omega), hg, Option.bind_some]
      simp only [hw, ih2]
    · rw [List.drop_of_length_le (by omega), disk_Crash.l3, disk_Crash.r3, if_neg (by omega)]
-- disk_Get.l0: no index
-- journal_laid.l1: no index
def tarryref01_Same.r1 (k : Nat) (l0 : List ByteArray) (l1 : List ByteArray) : List ByteArray → Nat → Option (Bool)
  | [], i8943 => (some true)
  | x8966 :: xsi8943, i8943 => ((l1[(i8943 : Int).toNat]?).bind fun x8967 => (if (x8966 == x8967) = true then (tarryref01_Same.r1 k l0 l1 xsi8943 (i8943 + 1)) else (some false)))
set_option maxHeartbeats 1000000 in
theorem tarryref01_Same.r1_eq (k : Nat) (l0 : List ByteArray) (l1 : List ByteArray)  (hs : l0.length < 4611686018427387904) : ∀ (m i8943 : Nat), l0.length < m + i8943 → i8943 ≤ l0.length → tarryref01_Same.l1 k l0 l1 m (i8943 : Int) = tarryref01_Same.r1 k l0 l1 (l0.drop i8943) i8943 := by
  intro m
  induction m with
  | zero => intro i8943 h hi; omega
  | succ m ih =>
    intro i8943 h hi
    by_cases hc : i8943 < l0.length
    · have hw : wrap64 ((i8943 : Int) + 1) = ((i8943 + 1 : Nat) : Int) := by unfold wrap64; omega
      have hg : l0[(i8943 : Int).toNat]? = some l0[i8943] := by rw [Int.toNat_natCast]; exact List.getElem?_eq_getElem hc
      have ih2 := ih (i8943 + 1) (by omega) (by omega)
      rw [List.drop_eq_getElem_cons hc, tarryref01_Same.l1, tarryref01_Same.r1, if_pos (by omega), if_pos (by omega), hg, Option.bind_some]
      simp only [hw, ih2]
    · rw [List.drop_of_length_le (by omega), tarryref01_Same.l1, tarryref01_Same.r1, if_neg (by omega)]
-- tarrylaw05_JournalUnused.l26: another shape

end Go.Proofs.Ytipeglbeongfmaa.PJournalUnused
