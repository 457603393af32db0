/- Written by a program of this repo: what the program's functions do, each as a Lean function, shown of the loaded code; or a statement's row over that; no condition of its own. -/
import Derived.Test.YtipeglbeongfmaaPJournalOpensx0
namespace Go.Proofs.Ytipeglbeongfmaa.PJournalOpens
open Go Go.RowKit Go.Proofs.YtipeglbeongfmaaV
set_option linter.unusedVariables false
set_option linter.unusedSimpArgs false

def tarrylaw05_disk.r5 (k : Nat) (l0_1 : List S55) (l86 : List ByteArray) : List S55 → (List S55) → Option (List ByteArray × List S55)
  | [], l300 => (some (l86, l300))
  | x321 :: xsi297, l300 => (if 0 ≤ mn (x321.f1.size : Int) 66 then (if (mn (x321.f1.size : Int) 66) ≤ (x321.f1.size : Int) then (if (l300.length + ([(⟨x321.f0, x321.f1.extract 0 ((mn (x321.f1.size : Int) 66).toNat)⟩ : S55)] : List S55).length) * 24 ≤ 140737488355328 then (tarrylaw05_disk.r5 k l0_1 l86 xsi297 (l300 ++ ([(⟨x321.f0, x321.f1.extract 0 ((mn (x321.f1.size : Int) 66).toNat)⟩ : S55)] : List S55))) else none) else none) else none)
set_option maxHeartbeats 1000000 in
theorem tarrylaw05_disk.r5_eq (k : Nat) (l0_1 : List S55) (l86 : List ByteArray)  (hs : ((l0_1.take ((mn (l0_1.length : Int) 4).toNat)).drop 0).length < 4611686018427387904) : ∀ (m i297 : Nat) (l300 : List S55), ((l0_1.take ((mn (l0_1.length : Int) 4).toNat)).drop 0).length < m + i297 → i297 ≤ ((l0_1.take ((mn (l0_1.length : Int) 4).toNat)).drop 0).length → tarrylaw05_disk.l5 k l0_1 l86 m (i297 : Int) l300 = tarrylaw05_disk.r5 k l0_1 l86 (((l0_1.take ((mn (l0_1.length : Int) 4).toNat)).drop 0).drop i297) l300 := by
  intro m
  induction m with
  | zero => intro i297 l300 h hi; omega
  | succ m ih =>
    intro i297 l300 h hi
    by_cases hc : i297 < ((l0_1.take ((mn (l0_1.length : Int) 4).toNat)).drop 0).length
    · have hw : wrap64 ((i297 : Int) + 1) = ((i297 + 1 : Nat) : Int) := by unfold wrap64; omega
      have hg : ((l0_1.take ((mn (l0_1.length : Int) 4).toNat)).drop 0)[(i297 : Int).toNat]? = some ((l0_1.take ((mn (l0_1.length : Int) 4).toNat)).drop 0)[i297] := by rw [Int.toNat_natCast]; exact List.getElem?_eq_getElem hc
      have ih2 := fun l300 => ih (i297 + 1) l300 (by omega) (by omega)
      rw [List.drop_eq_getElem_cons hc, tarrylaw05_disk.l5, tarrylaw05_disk.r5, if_pos (by omega), if_pos (by omega), hg, Option.bind_some]
      simp only [hw, ih2]
    · rw [List.drop_of_length_le (by omega), tarrylaw05_disk.l5, tarrylaw05_disk.r5, if_neg (by omega)]
def tarrylaw05_disk.r1 (k : Nat) (l0_0 : List ByteArray) (l0_1 : List S55) : List ByteArray → (List ByteArray) → Option (List ByteArray × List S55)
  | [], l86 => (if 0 ≤ mn (l0_1.length : Int) 4 then (if (mn (l0_1.length : Int) 4) ≤ (l0_1.length : Int) then (tarrylaw05_disk.r5 k l0_1 l86 ((l0_1.take ((mn (l0_1.length : Int) 4).toNat)).drop 0) ([] : List S55)) else none) else none)
  | x214 :: xsi83, l86 => (if 0 ≤ mn (x214.size : Int) 66 then (if (mn (x214.size : Int) 66) ≤ (x214.size : Int) then (if (l86.length + ([x214.extract 0 ((mn (x214.size : Int) 66).toNat)] : List ByteArray).length) * 16 ≤ 140737488355328 then (tarrylaw05_disk.r1 k l0_0 l0_1 xsi83 (l86 ++ ([x214.extract 0 ((mn (x214.size : Int) 66).toNat)] : List ByteArray))) else none) else none) else none)
set_option maxHeartbeats 1000000 in
theorem tarrylaw05_disk.r1_eq (k : Nat) (l0_0 : List ByteArray) (l0_1 : List S55) (hl5_0 : ((l0_1.take ((mn (l0_1.length : Int) 4).toNat)).drop 0).length < k ∧ ((l0_1.take ((mn (l0_1.length : Int) 4).toNat)).drop 0).length < 4611686018427387904) (hs : ((l0_0.take ((mn (l0_0.length : Int) 30).toNat)).drop 0).length < 4611686018427387904) : ∀ (m i83 : Nat) (l86 : List ByteArray), ((l0_0.take ((mn (l0_0.length : Int) 30).toNat)).drop 0).length < m + i83 → i83 ≤ ((l0_0.take ((mn (l0_0.length : Int) 30).toNat)).drop 0).length → tarrylaw05_disk.l1 k l0_0 l0_1 m (i83 : Int) l86 = tarrylaw05_disk.r1 k l0_0 l0_1 (((l0_0.take ((mn (l0_0.length : Int) 30).toNat)).drop 0).drop i83) l86 := by
  intro m
  induction m with
  | zero => intro i83 l86 h hi; omega
  | succ m ih =>
    intro i83 l86 h hi
    by_cases hc : i83 < ((l0_0.take ((mn (l0_0.length : Int) 30).toNat)).drop 0).length
    · have hw : wrap64 ((i83 : Int) + 1) = ((i83 + 1 : Nat) : Int) := by unfold wrap64; omega
      have hg : ((l0_0.take ((mn (l0_0.length : Int) 30).toNat)).drop 0)[(i83 : Int).toNat]? = some ((l0_0.take ((mn (l0_0.length : Int) 30).toNat)).drop 0)[i83] := by rw [Int.toNat_natCast]; exact List.getElem?_eq_getElem hc
      have ih2 := fun l86 => ih (i83 + 1) l86 (by omega) (by omega)
      rw [List.drop_eq_getElem_cons hc, tarrylaw05_disk.l1, tarrylaw05_disk.r1, if_pos (by omega), if_pos (by omega), hg, Option.bind_some]
      have el5 : ∀ (l86 : List ByteArray) (l300 : List S55), tarrylaw05_disk.l5 k l0_1 l86 k 0 l300 = tarrylaw05_disk.r5 k l0_1 l86 ((l0_1.take ((mn (l0_1.length : Int) 4).toNat)).drop 0) l300 := fun l86 l300 => tarrylaw05_disk.r5_eq k l0_1 l86 (hl5_0).2 k 0 l300 (by have := (hl5_0).1; omega) (Nat.zero_le _)
      simp only [el5, hw, ih2]
    · rw [List.drop_of_length_le (by omega), tarrylaw05_disk.l1, tarrylaw05_disk.r1, if_neg (by omega)]
      have el5 : ∀ (l86 : List ByteArray) (l300 : List S55), tarrylaw05_disk.l5 k l0_1 l86 k 0 l300 = tarrylaw05_disk.r5 k l0_1 l86 ((l0_1.take ((mn (l0_1.length : Int) 4).toNat)).drop 0) l300 := fun l86 l300 => tarrylaw05_disk.r5_eq k l0_1 l86 (hl5_0).2 k 0 l300 (by have := (hl5_0).1; omega) (Nat.zero_le _)
      try simp only [el5]
      try simp only [Int.natCast_zero]
def tarrylaw05_texts.r1 (k : Nat) (a1 : Int) (l0 : List ByteArray) : List ByteArray → (List ByteArray) → Option (List ByteArray)
  | [], l424 => (some l424)
  | x445 :: xsi426, l424 => (if 0 ≤ mn (x445.size : Int) 1002 then (if (mn (x445.size : Int) 1002) ≤ (x445.size : Int) then (if (l424.length + ([x445.extract 0 ((mn (x445.size : Int) 1002).toNat)] : List ByteArray).length) * 16 ≤ 140737488355328 then (tarrylaw05_texts.r1 k a1 l0 xsi426 (l424 ++ ([x445.extract 0 ((mn (x445.size : Int) 1002).toNat)] : List ByteArray))) else none) else none) else none)
set_option maxHeartbeats 1000000 in
theorem tarrylaw05_texts.r1_eq (k : Nat) (a1 : Int) (l0 : List ByteArray)  (hs : ((l0.take ((mn (l0.length : Int) a1).toNat)).drop 0).length < 4611686018427387904) : ∀ (m i426 : Nat) (l424 : List ByteArray), ((l0.take ((mn (l0.length : Int) a1).toNat)).drop 0).length < m + i426 → i426 ≤ ((l0.take ((mn (l0.length : Int) a1).toNat)).drop 0).length → tarrylaw05_texts.l1 k a1 l0 m l424 (i426 : Int) = tarrylaw05_texts.r1 k a1 l0 (((l0.take ((mn (l0.length : Int) a1).toNat)).drop 0).drop i426) l424 := by
  intro m
  induction m with
  | zero => intro i426 l424 h hi; omega
  | succ m ih =>
    intro i426 l424 h hi
    by_cases hc : i426 < ((l0.take ((mn (l0.length : Int) a1).toNat)).drop 0).length
    · have hw : wrap64 ((i426 : Int) + 1) = ((i426 + 1 : Nat) : Int) := by unfold wrap64; omega
      have hg : ((l0.take ((mn (l0.length : Int) a1).toNat)).drop 0)[(i426 : Int).toNat]? = some ((l0.take ((mn (l0.length : Int) a1).toNat)).drop 0)[i426] := by rw [Int.toNat_natCast]; exact List.getElem?_eq_getElem hc
      have ih2 := fun l424 => ih (i426 + 1) l424 (by omega) (by omega)
      rw [List.drop_eq_getElem_cons hc, tarrylaw05_texts.l1, tarrylaw05_texts.r1, if_pos (by omega), if_pos (by omega), hg, Option.bind_some]
      simp only [hw, ih2]
    · rw [List.drop_of_length_le (by omega), tarrylaw05_texts.l1, tarrylaw05_texts.r1, if_neg (by omega)]
def slices_IndexFunc_string_string.r1 (k : Nat) (l0 : List ByteArray) : List ByteArray → Nat → Option (Int)
  | [], i562 => (some (-1))
  | x591 :: xsi562, i562 => ((disk_Right_1.f x591).bind fun t594 => (if t594 = true then (some (i562 : Int)) else (slices_IndexFunc_string_string.r1 k l0 xsi562 (i562 + 1))))
set_option maxHeartbeats 1000000 in
theorem slices_IndexFunc_string_string.r1_eq (k : Nat) (l0 : List ByteArray)  (hs : l0.length < 4611686018427387904) : ∀ (m i562 : Nat), l0.length < m + i562 → i562 ≤ l0.length → slices_IndexFunc_string_string.l1 k l0 m (i562 : Int) = slices_IndexFunc_string_string.r1 k l0 (l0.drop i562) i562 := by
  intro m
  induction m with
  | zero => intro i562 h hi; omega
  | succ m ih =>
    intro i562 h hi
    by_cases hc : i562 < l0.length
    · have hw : wrap64 ((i562 : Int) + 1) = ((i562 + 1 : Nat) : Int) := by unfold wrap64; omega
      have hg : l0[(i562 : Int).toNat]? = some l0[i562] := by rw [Int.toNat_natCast]; exact List.getElem?_eq_getElem hc
      have ih2 := ih (i562 + 1) (by omega) (by omega)
      rw [List.drop_eq_getElem_cons hc, slices_IndexFunc_string_string.l1, slices_IndexFunc_string_string.r1, if_pos (by omega), if_pos (by omega), hg, Option.bind_some]
      simp only [hw, ih2]
    · rw [List.drop_of_length_le (by omega), slices_IndexFunc_string_string.l1, slices_IndexFunc_string_string.r1, if_neg (by omega)]
def slices_IndexFunc_api_Write_api_Write.r1 (k : Nat) (a1_0_0 : Int) (l0 : List S55) : List S55 → Nat → Option (Int)
  | [], i683 => (some (-1))
  | x712 :: xsi683, i683 => ((disk_Right_2.f x712.f0 x712.f1 a1_0_0).bind fun t715 => (if t715 = true then (some (i683 : Int)) else (slices_IndexFunc_api_Write_api_Write.r1 k a1_0_0 l0 xsi683 (i683 + 1))))
set_option maxHeartbeats 1000000 in
theorem slices_IndexFunc_api_Write_api_Write.r1_eq (k : Nat) (a1_0_0 : Int) (l0 : List S55)  (hs : l0.length < 4611686018427387904) : ∀ (m i683 : Nat), l0.length < m + i683 → i683 ≤ l0.length → slices_IndexFunc_api_Write_api_Write.l1 k a1_0_0 l0 m (i683 : Int) = slices_IndexFunc_api_Write_api_Write.r1 k a1_0_0 l0 (l0.drop i683) i683 := by
  intro m
  induction m with
  | zero => intro i683 h hi; omega
  | succ m ih =>
    intro i683 h hi
    by_cases hc : i683 < l0.length
    · have hw : wrap64 ((i683 : Int) + 1) = ((i683 + 1 : Nat) : Int) := by unfold wrap64; omega
      have hg : l0[(i683 : Int).toNat]? = some l0[i683] := by rw [Int.toNat_natCast]; exact List.getElem?_eq_getElem hc
      have ih2 := ih (i683 + 1) (by omega) (by omega)
      rw [List.drop_eq_getElem_cons hc, slices_IndexFunc_api_Write_api_Write.l1, slices_IndexFunc_api_Write_api_Write.r1, if_pos (by omega), if_pos (by omega), hg, Option.bind_some]
      simp only [hw, ih2]
    · rw [List.drop_of_length_le (by omega), slices_IndexFunc_api_Write_api_Write.l1, slices_IndexFunc_api_Write_api_Write.r1, if_neg (by omega)]
-- journal_headOf.l5: no index
-- journal_headOf.l1: no index
-- journal_read.l15: no index
-- journal_read.l11: no index
-- pack_ReadNumber.l3: another shape
-- check_Table.l9: no index
-- check_Table.l5: no index
-- check_On.l1: another shape
-- check_Bytes.l1: no index
-- frame_Scan.l1: no index
def journal_Open.r8 (k : Nat) (l0_0 : List ByteArray) (l0_1 : List S55) : List ByteArray → Nat → (List ByteArray) → (List S55) → Int → Int → Int → (List ByteArray) → (List ByteArray) → Option (List ByteArray × List S55 × Int × Int × Int × List ByteArray × List ByteArray × Int)
  | [], i6370, l6373, l6377, i6379, i6380, i6381, l6384, l6388 => (journal_Open.j7 k l0_0 l0_1 l6373 l6377 i6379 i6380 i6381 l6384 l6388)
  | x6478 :: xsi6370, i6370, l6373, l6377, i6379, i6380, i6381, l6384, l6388 => ((journal_read.f k (i6370 : Int) x6478 (l0_0.length : Int)).bind fun ⟨r6481, r6482, t6483, t6484, t6485, r6486, r6487, t6488⟩ => (if t6488 = true then (if t6483 > i6379 then (journal_Open.r8 k l0_0 l0_1 xsi6370 (i6370 + 1) r6481 r6482 t6483 t6484 t6485 r6486 r6487) else (journal_Open.r8 k l0_0 l0_1 xsi6370 (i6370 + 1) l6373 l6377 i6379 i6380 i6381 l6384 l6388)) else (journal_Open.r8 k l0_0 l0_1 xsi6370 (i6370 + 1) l6373 l6377 i6379 i6380 i6381 l6384 l6388)))
set_option maxHeartbeats 1000000 in
theorem journal_Open.r8_eq (k : Nat) (l0_0 : List ByteArray) (l0_1 : List S55)  (hs : ((l0_0.take 2).drop 0).length < 4611686018427387904) : ∀ (m i6370 : Nat) (l6373 : List ByteArray) (l6377 : List S55) (i6379 : Int) (i6380 : Int) (i6381 : Int) (l6384 : List ByteArray) (l6388 : List ByteArray), ((l0_0.take 2).drop 0).length < m + i6370 → i6370 ≤ ((l0_0.take 2).drop 0).length → journal_Open.l8 k l0_0 l0_1 m (i6370 : Int) l6373 l6377 i6379 i6380 i6381 l6384 l6388 = journal_Open.r8 k l0_0 l0_1 (((l0_0.take 2).drop 0).drop i6370) i6370 l6373 l6377 i6379 i6380 i6381 l6384 l6388 := by
  intro m
  induction m with
  | zero => intro i6370 l6373 l6377 i6379 i6380 i6381 l6384 l6388 h hi; omega
  | succ m ih =>
    intro i6370 l6373 l6377 i6379 i6380 i6381 l6384 l6388 h hi
    by_cases hc : i6370 < ((l0_0.take 2).drop 0).length
    · have hw : wrap64 ((i6370 : Int) + 1) = ((i6370 + 1 : Nat) : Int) := by unfold wrap64; omega
      have hg : ((l0_0.take 2).drop 0)[(i6370 : Int).toNat]? = some ((l0_0.take 2).drop 0)[i6370] := by rw [Int.toNat_natCast]; exact List.getElem?_eq_getElem hc
      have ih2 := fun l6373 l6377 i6379 i6380 i6381 l6384 l6388 => ih (i6370 + 1) l6373 l6377 i6379 i6380 i6381 l6384 l6388 (by omega) (by omega)
      rw [List.drop_eq_getElem_cons hc, journal_Open.l8, journal_Open.r8, if_pos (by omega), if_pos (by omega), hg, Option.bind_some]
      simp only [hw, ih2]
    · rw [List.drop_of_length_le (by omega), journal_Open.l8, journal_Open.r8, if_neg (by omega)]
def tarryref03_Right.r5 (k : Nat) (l0_0 : List ByteArray) (l0_1 : List S55) : List S55 → Option (Bool)
  | [] => (if (l0_0.length : Int) > 0 then (if (l0_0.length : Int) ≤ 512 then (some (decide ((l0_1.length : Int) ≤ 64))) else (some false)) else (some false))
  | x7104 :: xsi7038 => (if x7104.f0 < 0 then (some false) else (if x7104.f0 ≥ (l0_0.length : Int) then (some false) else (if (x7104.f1.size : Int) = 64 then (tarryref03_Right.r5 k l0_0 l0_1 xsi7038) else (some false))))
set_option maxHeartbeats 1000000 in
theorem tarryref03_Right.r5_eq (k : Nat) (l0_0 : List ByteArray) (l0_1 : List S55)  (hs : l0_1.length < 4611686018427387904) : ∀ (m i7038 : Nat), l0_1.length < m + i7038 → i7038 ≤ l0_1.length → tarryref03_Right.l5 k l0_0 l0_1 m (i7038 : Int) = tarryref03_Right.r5 k l0_0 l0_1 (l0_1.drop i7038) := by
  intro m
  induction m with
  | zero => intro i7038 h hi; omega
  | succ m ih =>
    intro i7038 h hi
    by_cases hc : i7038 < l0_1.length
    · have hw : wrap64 ((i7038 : Int) + 1) = ((i7038 + 1 : Nat) : Int) := by unfold wrap64; omega
      have hg : l0_1[(i7038 : Int).toNat]? = some l0_1[i7038] := by rw [Int.toNat_natCast]; exact List.getElem?_eq_getElem hc
      have ih2 := ih (i7038 + 1) (by omega) (by omega)
      rw [List.drop_eq_getElem_cons hc, tarryref03_Right.l5, tarryref03_Right.r5, if_pos (by omega), if_pos (by omega), hg, Option.bind_some]
      simp only [hw, ih2]
    · rw [List.drop_of_length_le (by omega), tarryref03_Right.l5, tarryref03_Right.r5, if_neg (by omega)]
def tarryref03_Right.r1 (k : Nat) (l0_0 : List ByteArray) (l0_1 : List S55) : List ByteArray → Option (Bool)
  | [] => (tarryref03_Right.r5 k l0_0 l0_1 l0_1)
  | x6896 :: xsi6642 => (if (x6896.size : Int) = 64 then (tarryref03_Right.r1 k l0_0 l0_1 xsi6642) else (some false))
set_option maxHeartbeats 1000000 in
theorem tarryref03_Right.r1_eq (k : Nat) (l0_0 : List ByteArray) (l0_1 : List S55) (hl5_0 : l0_1.length < k ∧ l0_1.length < 4611686018427387904) (hs : l0_0.length < 4611686018427387904) : ∀ (m i6642 : Nat), l0_0.length < m + i6642 → i6642 ≤ l0_0.length → tarryref03_Right.l1 k l0_0 l0_1 m (i6642 : Int) = tarryref03_Right.r1 k l0_0 l0_1 (l0_0.drop i6642) := by
  intro m
  induction m with
  | zero => intro i6642 h hi; omega
  | succ m ih =>
    intro i6642 h hi
    by_cases hc : i6642 < l0_0.length
    · have hw : wrap64 ((i6642 : Int) + 1) = ((i6642 + 1 : Nat) : Int) := by unfold wrap64; omega
      have hg : l0_0[(i6642 : Int).toNat]? = some l0_0[i6642] := by rw [Int.toNat_natCast]; exact List.getElem?_eq_getElem hc
      have ih2 := ih (i6642 + 1) (by omega) (by omega)
      rw [List.drop_eq_getElem_cons hc, tarryref03_Right.l1, tarryref03_Right.r1, if_pos (by omega), if_pos (by omega), hg, Option.bind_some]
      have el5 : tarryref03_Right.l5 k l0_0 l0_1 k 0 = tarryref03_Right.r5 k l0_0 l0_1 l0_1 := tarryref03_Right.r5_eq k l0_0 l0_1 (hl5_0).2 k 0 (by have := (hl5_0).1; omega) (Nat.zero_le _)
      simp only [el5, hw, ih2]
    · rw [List.drop_of_length_le (by omega), tarryref03_Right.l1, tarryref03_Right.r1, if_neg (by omega)]
      have el5 : tarryref03_Right.l5 k l0_0 l0_1 k 0 = tarryref03_Right.r5 k l0_0 l0_1 l0_1 := tarryref03_Right.r5_eq k l0_0 l0_1 (hl5_0).2 k 0 (by have := (hl5_0).1; omega) (Nat.zero_le _)
      try simp only [el5]
      try simp only [Int.natCast_zero]
-- tarryref05_number.l1: no index
-- tarryref05_low.l1: no index
-- tarryref05_Head.l1: no index
def tarryref03_Get.r1 (k : Nat) (a1 : Int) (l0_1 : List S55) : List S55 → ByteArray → Option (ByteArray)
  | [], s7604 => (some s7604)
  | x7634 :: xsi7605, s7604 => (if x7634.f0 = a1 then (tarryref03_Get.r1 k a1 l0_1 xsi7605 x7634.f1) else (tarryref03_Get.r1 k a1 l0_1 xsi7605 s7604))
set_option maxHeartbeats 1000000 in
theorem tarryref03_Get.r1_eq (k : Nat) (a1 : Int) (l0_1 : List S55)  (hs : l0_1.length < 4611686018427387904) : ∀ (m i7605 : Nat) (s7604 : ByteArray), l0_1.length < m + i7605 → i7605 ≤ l0_1.length → tarryref03_Get.l1 k a1 l0_1 m s7604 (i7605 : Int) = tarryref03_Get.r1 k a1 l0_1 (l0_1.drop i7605) s7604 := by
  intro m
  induction m with
  | zero => intro i7605 s7604 h hi; omega
  | succ m ih =>
    intro i7605 s7604 h hi
    by_cases hc : i7605 < l0_1.length
    · have hw : wrap64 ((i7605 : Int) + 1) = ((i7605 + 1 : Nat) : Int) := by unfold wrap64; omega
      have hg : l0_1[(i7605 : Int).toNat]? = some l0_1[i7605] := by rw [Int.toNat_natCast]; exact List.getElem?_eq_getElem hc
      have ih2 := fun s7604 => ih (i7605 + 1) s7604 (by omega) (by omega)
      rw [List.drop_eq_getElem_cons hc, tarryref03_Get.l1, tarryref03_Get.r1, if_pos (by omega), if_pos (by omega), hg, Option.bind_some]
      simp only [hw, ih2]
    · rw [List.drop_of_length_le (by omega), tarryref03_Get.l1, tarryref03_Get.r1, if_neg (by omega)]
-- tarryref05_Bytes.l1: another shape
-- tarryref01_ReadNumber.l214: no index
-- tarryref01_ReadNumber.l185: another shape
-- tarryref02_Off.l1: no index
-- tarryref02_On.l1: another shape
-- tarryref02_Bytes.l1: no index
-- tarryref04_Scan.l1: no index
-- tarryref01_Number.l1: no index
-- tarryref01_Number.l3: no index
def tarryref04_Whole.r1 (k : Nat) (l0 : List ByteArray) : List ByteArray → ByteArray → Option (ByteArray)
  | [], s24605 => (some s24605)
  | x24621 :: xsi24606, s24605 => ((tarryref04_Frame.f k x24621).bind fun t24624 => (if s24605.size + t24624.size ≤ 9223372036854775807 then (tarryref04_Whole.r1 k l0 xsi24606 (s24605 ++ t24624)) else none))
set_option maxHeartbeats 1000000 in
theorem tarryref04_Whole.r1_eq (k : Nat) (l0 : List ByteArray)  (hs : l0.length < 4611686018427387904) : ∀ (m i24606 : Nat) (s24605 : ByteArray), l0.length < m + i24606 → i24606 ≤ l0.length → tarryref04_Whole.l1 k l0 m s24605 (i24606 : Int) = tarryref04_Whole.r1 k l0 (l0.drop i24606) s24605 := by
  intro m
  induction m with
  | zero => intro i24606 s24605 h hi; omega
  | succ m ih =>
    intro i24606 s24605 h hi
    by_cases hc : i24606 < l0.length
    · have hw : wrap64 ((i24606 : Int) + 1) = ((i24606 + 1 : Nat) : Int) := by unfold wrap64; omega
      have hg : l0[(i24606 : Int).toNat]? = some l0[i24606] := by rw [Int.toNat_natCast]; exact List.getElem?_eq_getElem hc
      have ih2 := fun s24605 => ih (i24606 + 1) s24605 (by omega) (by omega)
      rw [List.drop_eq_getElem_cons hc, tarryref04_Whole.l1, tarryref04_Whole.r1, if_pos (by omega), if_pos (by omega), hg, Option.bind_some]
      simp only [hw, ih2]
    · rw [List.drop_of_length_le (by omega), tarryref04_Whole.l1, tarryref04_Whole.r1, if_neg (by omega)]
def tarryref01_Same.r1 (k : Nat) (l0 : List ByteArray) (l1 : List ByteArray) : List ByteArray → Nat → Option (Bool)
  | [], i24894 => (some true)
  | x24917 :: xsi24894, i24894 => ((l1[(i24894 : Int).toNat]?).bind fun x24918 => (if (x24917 == x24918) = true then (tarryref01_Same.r1 k l0 l1 xsi24894 (i24894 + 1)) else (some false)))
set_option maxHeartbeats 1000000 in
theorem tarryref01_Same.r1_eq (k : Nat) (l0 : List ByteArray) (l1 : List ByteArray)  (hs : l0.length < 4611686018427387904) : ∀ (m i24894 : Nat), l0.length < m + i24894 → i24894 ≤ l0.length → tarryref01_Same.l1 k l0 l1 m (i24894 : Int) = tarryref01_Same.r1 k l0 l1 (l0.drop i24894) i24894 := by
  intro m
  induction m with
  | zero => intro i24894 h hi; omega
  | succ m ih =>
    intro i24894 h hi
    by_cases hc : i24894 < l0.length
    · have hw : wrap64 ((i24894 : Int) + 1) = ((i24894 + 1 : Nat) : Int) := by unfold wrap64; omega
      have hg : l0[(i24894 : Int).toNat]? = some l0[i24894] := by rw [Int.toNat_natCast]; exact List.getElem?_eq_getElem hc
      have ih2 := ih (i24894 + 1) (by omega) (by omega)
      rw [List.drop_eq_getElem_cons hc, tarryref01_Same.l1, tarryref01_Same.r1, if_pos (by omega), if_pos (by omega), hg, Option.bind_some]
      simp only [hw, ih2]
    · rw [List.drop_of_length_le (by omega), tarryref01_Same.l1, tarryref01_Same.r1, if_neg (by omega)]
def tarryref03_Like.r5 (k : Nat) (l0_1 : List S55) (l1_1 : List S55) : List S55 → Nat → Option (Bool)
  | [], i25156 => (some true)
  | x25179 :: xsi25156, i25156 => ((l1_1[(i25156 : Int).toNat]?).bind fun x25180 => (if (((x25179.f0 == x25180.f0) && (x25179.f1 == x25180.f1))) = true then (tarryref03_Like.r5 k l0_1 l1_1 xsi25156 (i25156 + 1)) else (some false)))
set_option maxHeartbeats 1000000 in
theorem tarryref03_Like.r5_eq (k : Nat) (l0_1 : List S55) (l1_1 : List S55)  (hs : l0_1.length < 4611686018427387904) : ∀ (m i25156 : Nat), l0_1.length < m + i25156 → i25156 ≤ l0_1.length → tarryref03_Like.l5 k l0_1 l1_1 m (i25156 : Int) = tarryref03_Like.r5 k l0_1 l1_1 (l0_1.drop i25156) i25156 := by
  intro m
  induction m with
  | zero => intro i25156 h hi; omega
  | succ m ih =>
    intro i25156 h hi
    by_cases hc : i25156 < l0_1.length
    · have hw : wrap64 ((i25156 : Int) + 1) = ((i25156 + 1 : Nat) : Int) := by unfold wrap64; omega
      have hg : l0_1[(i25156 : Int).toNat]? = some l0_1[i25156] := by rw [Int.toNat_natCast]; exact List.getElem?_eq_getElem hc
      have ih2 := ih (i25156 + 1) (by omega) (by omega)
      rw [List.drop_eq_getElem_cons hc, tarryref03_Like.l5, tarryref03_Like.r5, if_pos (by omega), if_pos (by omega), hg, Option.bind_some]
      simp only [hw, ih2]
    · rw [List.drop_of_length_le (by omega), tarryref03_Like.l5, tarryref03_Like.r5, if_neg (by omega)]
def tarryref03_Like.r1 (k : Nat) (l0_0 : List ByteArray) (l0_1 : List S55) (l1_0 : List ByteArray) (l1_1 : List S55) : List ByteArray → Nat → Option (Bool)
  | [], i25000 => (tarryref03_Like.r5 k l0_1 l1_1 l0_1 0)
  | x25103 :: xsi25000, i25000 => ((l1_0[(i25000 : Int).toNat]?).bind fun x25104 => (if (x25103 == x25104) = true then (tarryref03_Like.r1 k l0_0 l0_1 l1_0 l1_1 xsi25000 (i25000 + 1)) else (some false)))
set_option maxHeartbeats 1000000 in
theorem tarryref03_Like.r1_eq (k : Nat) (l0_0 : List ByteArray) (l0_1 : List S55) (l1_0 : List ByteArray) (l1_1 : List S55) (hl5_0 : l0_1.length < k ∧ l0_1.length < 4611686018427387904) (hs : l0_0.length < 4611686018427387904) : ∀ (m i25000 : Nat), l0_0.length < m + i25000 → i25000 ≤ l0_0.length → tarryref03_Like.l1 k l0_0 l0_1 l1_0 l1_1 m (i25000 : Int) = tarryref03_Like.r1 k l0_0 l0_1 l1_0 l1_1 (l0_0.drop i25000) i25000 := by
  intro m
  induction m with
  | zero => intro i25000 h hi; omega
  | succ m ih =>
    intro i25000 h hi
    by_cases hc : i25000 < l0_0.length
    · have hw : wrap64 ((i25000 : Int) + 1) = ((i25000 + 1 : Nat) : Int) := by unfold wrap64; omega
      have hg : l0_0[(i25000 : Int).toNat]? = some l0_0[i25000] := by rw [Int.toNat_natCast]; exact List.getElem?_eq_getElem hc
      have ih2 := ih (i25000 + 1) (by omega) (by omega)
      rw [List.drop_eq_getElem_cons hc, tarryref03_Like.l1, tarryref03_Like.r1, if_pos (by omega), if_pos (by omega), hg, Option.bind_some]
      have el5 : tarryref03_Like.l5 k l0_1 l1_1 k 0 = tarryref03_Like.r5 k l0_1 l1_1 l0_1 0 := tarryref03_Like.r5_eq k l0_1 l1_1 (hl5_0).2 k 0 (by have := (hl5_0).1; omega) (Nat.zero_le _)
      simp only [el5, hw, ih2]
    · rw [List.drop_of_length_le (by omega), tarryref03_Like.l1, tarryref03_Like.r1, if_neg (by omega)]
      have el5 : tarryref03_Like.l5 k l0_1 l1_1 k 0 = tarryref03_Like.r5 k l0_1 l1_1 l0_1 0 := tarryref03_Like.r5_eq k l0_1 l1_1 (hl5_0).2 k 0 (by have := (hl5_0).1; omega) (Nat.zero_le _)
      try simp only [el5]
      try simp only [Int.natCast_zero]
def slices_Equal_string_string.r1 (k : Nat) (l0 : List ByteArray) (l1 : List ByteArray) : List ByteArray → Nat → Option (Bool)
  | [], i25290 => (some true)
  | x25313 :: xsi25290, i25290 => ((l1[(i25290 : Int).toNat]?).bind fun x25314 => (if (x25313 == x25314) = true then (slices_Equal_string_string.r1 k l0 l1 xsi25290 (i25290 + 1)) else (some false)))
set_option maxHeartbeats 1000000 in
theorem slices_Equal_string_string.r1_eq (k : Nat) (l0 : List ByteArray) (l1 : List ByteArray)  (hs : l0.length < 4611686018427387904) : ∀ (m i25290 : Nat), l0.length < m + i25290 → i25290 ≤ l0.length → slices_Equal_string_string.l1 k l0 l1 m (i25290 : Int) = slices_Equal_string_string.r1 k l0 l1 (l0.drop i25290) i25290 := by
  intro m
  induction m with
  | zero => intro i25290 h hi; omega
  | succ m ih =>
    intro i25290 h hi
    by_cases hc : i25290 < l0.length
    · have hw : wrap64 ((i25290 : Int) + 1) = ((i25290 + 1 : Nat) : Int) := by unfold wrap64; omega
      have hg : l0[(i25290 : Int).toNat]? = some l0[i25290] := by rw [Int.toNat_natCast]; exact List.getElem?_eq_getElem hc
      have ih2 := ih (i25290 + 1) (by omega) (by omega)
      rw [List.drop_eq_getElem_cons hc, slices_Equal_string_string.l1, slices_Equal_string_string.r1, if_pos (by omega), if_pos (by omega), hg, Option.bind_some]
      simp only [hw, ih2]
    · rw [List.drop_of_length_le (by omega), slices_Equal_string_string.l1, slices_Equal_string_string.r1, if_neg (by omega)]
def slices_IndexFunc_string_string_s47.r1 (k : Nat) (l0 : List ByteArray) : List ByteArray → Nat → Option (Int)
  | [], i25404 => (some (-1))
  | x25433 :: xsi25404, i25404 => ((journal_waits_1.f x25433).bind fun t25436 => (if t25436 = true then (some (i25404 : Int)) else (slices_IndexFunc_string_string_s47.r1 k l0 xsi25404 (i25404 + 1))))
set_option maxHeartbeats 1000000 in
theorem slices_IndexFunc_string_string_s47.r1_eq (k : Nat) (l0 : List ByteArray)  (hs : l0.length < 4611686018427387904) : ∀ (m i25404 : Nat), l0.length < m + i25404 → i25404 ≤ l0.length → slices_IndexFunc_string_string_s47.l1 k l0 m (i25404 : Int) = slices_IndexFunc_string_string_s47.r1 k l0 (l0.drop i25404) i25404 := by
  intro m
  induction m with
  | zero => intro i25404 h hi; omega
  | succ m ih =>
    intro i25404 h hi
    by_cases hc : i25404 < l0.length
    · have hw : wrap64 ((i25404 : Int) + 1) = ((i25404 + 1 : Nat) : Int) := by unfold wrap64; omega
      have hg : l0[(i25404 : Int).toNat]? = some l0[i25404] := by rw [Int.toNat_natCast]; exact List.getElem?_eq_getElem hc
      have ih2 := ih (i25404 + 1) (by omega) (by omega)
      rw [List.drop_eq_getElem_cons hc, slices_IndexFunc_string_string_s47.l1, slices_IndexFunc_string_string_s47.r1, if_pos (by omega), if_pos (by omega), hg, Option.bind_some]
      simp only [hw, ih2]
    · rw [List.drop_of_length_le (by omega), slices_IndexFunc_string_string_s47.l1, slices_IndexFunc_string_string_s47.r1, if_neg (by omega)]
-- pack_Number.l1: no index
-- pack_Number.l3: no index
def tarryref05_Waits.r1 (k : Nat) (a0_4 : Int) (l0_0 : List ByteArray) (l1 : List ByteArray) : List ByteArray → Option (Int)
  | [] => ((tarryref04_Whole.f k l1).bind fun t25818 => (if (l1.length : Int) > 16 then (some 7) else (if (t25818.size : Int) > 3000 then (some 7) else ((tarryref05_Room.f (l0_0.length : Int)).bind fun t25832 => (if (wrap64 (a0_4 + (t25818.size : Int))) > t25832 then (some 7) else (some 0))))))
  | x25813 :: xsi25769 => (if (x25813.size : Int) > 1000 then (some 3) else (tarryref05_Waits.r1 k a0_4 l0_0 l1 xsi25769))
set_option maxHeartbeats 1000000 in
theorem tarryref05_Waits.r1_eq (k : Nat) (a0_4 : Int) (l0_0 : List ByteArray) (l1 : List ByteArray)  (hs : l1.length < 4611686018427387904) : ∀ (m i25769 : Nat), l1.length < m + i25769 → i25769 ≤ l1.length → tarryref05_Waits.l1 k a0_4 l0_0 l1 m (i25769 : Int) = tarryref05_Waits.r1 k a0_4 l0_0 l1 (l1.drop i25769) := by
  intro m
  induction m with
  | zero => intro i25769 h hi; omega
  | succ m ih =>
    intro i25769 h hi
    by_cases hc : i25769 < l1.length
    · have hw : wrap64 ((i25769 : Int) + 1) = ((i25769 + 1 : Nat) : Int) := by unfold wrap64; omega
      have hg : l1[(i25769 : Int).toNat]? = some l1[i25769] := by rw [Int.toNat_natCast]; exact List.getElem?_eq_getElem hc
      have ih2 := ih (i25769 + 1) (by omega) (by omega)
      rw [List.drop_eq_getElem_cons hc, tarryref05_Waits.l1, tarryref05_Waits.r1, if_pos (by omega), if_pos (by omega), hg, Option.bind_some]
      simp only [hw, ih2]
    · rw [List.drop_of_length_le (by omega), tarryref05_Waits.l1, tarryref05_Waits.r1, if_neg (by omega)]
def disk_Crash.r3 (k : Nat) (a1 : Int) (a2 : Int) (l0_1 : List S55) : List S55 → Nat → (List ByteArray) → Int → Option (List ByteArray × List S55 × Int)
  | [], i26437, l26435, i26436 => (disk_Crash.j2 k a2 l0_1 l26435 i26436)
  | x26484 :: xsi26437, i26437, l26435, i26436 => (if (Go.bits .and .u64 (a1.fdiv (2 ^ min (i26437 : Int).toNat IntKind.u64.bits)) 1) = 1 then (if 0 ≤ x26484.f0 then ((l26435[x26484.f0.toNat]?).bind fun x26491 => (disk_Crash.r3 k a1 a2 l0_1 xsi26437 (i26437 + 1) (l26435.set x26484.f0.toNat x26484.f1) i26436)) else none) else (disk_Crash.r3 k a1 a2 l0_1 xsi26437 (i26437 + 1) l26435 (i26437 : Int)))
set_option maxHeartbeats 1000000 in
theorem disk_Crash.r3_eq (k : Nat) (a1 : Int) (a2 : Int) (l0_1 : List S55)  (hs : l0_1.length < 4611686018427387904) : ∀ (m i26437 : Nat) (l26435 : List ByteArray) (i26436 : Int), l0_1.length < m + i26437 → i26437 ≤ l0_1.length → disk_Crash.l3 k a1 a2 l0_1 m l26435 i26436 (i26437 : Int) = disk_Crash.r3 k a1 a2 l0_1 (l0_1.drop i26437) i26437 l26435 i26436 := by
  intro m
  induction m with
  | zero => intro i26437 l26435 i26436 h hi; omega
  | succ m ih =>
    intro i26437 l26435 i26436 h hi
    by_cases hc : i26437 < l0_1.length
    · have hw : wrap64 ((i26437 : Int) + 1) = ((i26437 + 1 : Nat) : Int) := by unfold wrap64; omega
      have hg : l0_1[(i26437 : Int).toNat]? = some l0_1[i26437] := by rw [Int.toNat_natCast]; exact List.getElem?_eq_getElem hc
      have ih2 := fun l26435 i26436 => ih (i26437 + 1) l26435 i26436 (by omega) (by omega)
      rw [List.drop_eq_getElem_cons hc, disk_Crash.l3, disk_Crash.r3, if_pos (by omega), if_pos (by omega), hg, Option.bind_some]
      simp only [hw, ih2]
    · rw [List.drop_of_length_le (by omega), disk_Crash.l3, disk_Crash.r3, if_neg (by omega)]
-- disk_Get.l0: no index
-- journal_laid.l1: no index
def tarrylaw05_JournalOpens.r4 (k : Nat) (r27631 : List ByteArray) : List ByteArray → Nat → Option (Bool)
  | [], i28072 => (some true)
  | x28119 :: xsi28072, i28072 => (if (i28072 : Int) = 1 then (tarrylaw05_JournalOpens.r4 k r27631 xsi28072 (i28072 + 1)) else (if (List.replicate 64 (0 : Int)).length = 64 then (if (x28119 == (strOfNums (List.replicate 64 (0 : Int)))) = true then (tarrylaw05_JournalOpens.r4 k r27631 xsi28072 (i28072 + 1)) else none) else none))
set_option maxHeartbeats 1000000 in
theorem tarrylaw05_JournalOpens.r4_eq (k : Nat) (r27631 : List ByteArray)  (hs : r27631.length < 4611686018427387904) : ∀ (m i28072 : Nat), r27631.length < m + i28072 → i28072 ≤ r27631.length → tarrylaw05_JournalOpens.l4 k r27631 m (i28072 : Int) = tarrylaw05_JournalOpens.r4 k r27631 (r27631.drop i28072) i28072 := by
  intro m
  induction m with
  | zero => intro i28072 h hi; omega
  | succ m ih =>
    intro i28072 h hi
    by_cases hc : i28072 < r27631.length
    · have hw : wrap64 ((i28072 : Int) + 1) = ((i28072 + 1 : Nat) : Int) := by unfold wrap64; omega
      have hg : r27631[(i28072 : Int).toNat]? = some r27631[i28072] := by rw [Int.toNat_natCast]; exact List.getElem?_eq_getElem hc
      have ih2 := ih (i28072 + 1) (by omega) (by omega)
      rw [List.drop_eq_getElem_cons hc, tarrylaw05_JournalOpens.l4, tarrylaw05_JournalOpens.r4, if_pos (by omega), if_pos (by omega), hg, Option.bind_some]
      simp only [hw, ih2]
    · rw [List.drop_of_length_le (by omega), tarrylaw05_JournalOpens.l4, tarrylaw05_JournalOpens.r4, if_neg (by omega)]

end Go.Proofs.Ytipeglbeongfmaa.PJournalOpens
