/- Written by a program of this repo: what the program's functions do, each as a Lean function, shown of the loaded code; or a statement's row over that; no condition of its own. -/
import Derived.Test.YtipeglbeongfmaaPJournalLivesx0
namespace Go.Proofs.Ytipeglbeongfmaa.PJournalLives
open Go Go.RowKit Go.Proofs.YtipeglbeongfmaaV
set_option linter.unusedVariables false
set_option linter.unusedSimpArgs false

-- journal_headOf.l5: no index
-- journal_headOf.l1: no index
def slices_IndexFunc_string_string.r1 (k : Nat) (l0 : List ByteArray) : List ByteArray → Nat → Option (Int)
  | [], i288 => (some (-1))
  | x317 :: xsi288, i288 => ((disk_Right_1.f x317).bind fun t320 => (if t320 = true then (some (i288 : Int)) else (slices_IndexFunc_string_string.r1 k l0 xsi288 (i288 + 1))))
set_option maxHeartbeats 1000000 in
theorem slices_IndexFunc_string_string.r1_eq (k : Nat) (l0 : List ByteArray)  (hs : l0.length < 4611686018427387904) : ∀ (m i288 : Nat), l0.length < m + i288 → i288 ≤ l0.length → slices_IndexFunc_string_string.l1 k l0 m (i288 : Int) = slices_IndexFunc_string_string.r1 k l0 (l0.drop i288) i288 := by
  intro m
  induction m with
  | zero => intro i288 h hi; omega
  | succ m ih =>
    intro i288 h hi
    by_cases hc : i288 < l0.length
    · have hw : wrap64 ((i288 : Int) + 1) = ((i288 + 1 : Nat) : Int) := by unfold wrap64; omega
      have hg : l0[(i288 : Int).toNat]? = some l0[i288] := by rw [Int.toNat_natCast]; exact List.getElem?_eq_getElem hc
      have ih2 := ih (i288 + 1) (by omega) (by omega)
      rw [List.drop_eq_getElem_cons hc, slices_IndexFunc_string_string.l1, slices_IndexFunc_string_string.r1, if_pos (by omega), if_pos (by omega), hg, Option.bind_some]
      simp only [hw, ih2]
    · rw [List.drop_of_length_le (by omega), slices_IndexFunc_string_string.l1, slices_IndexFunc_string_string.r1, if_neg (by omega)]
def slices_IndexFunc_api_Write_api_Write.r1 (k : Nat) (a1_0_0 : Int) (l0 : List S55) : List S55 → Nat → Option (Int)
  | [], i409 => (some (-1))
  | x438 :: xsi409, i409 => ((disk_Right_2.f x438.f0 x438.f1 a1_0_0).bind fun t441 => (if t441 = true then (some (i409 : Int)) else (slices_IndexFunc_api_Write_api_Write.r1 k a1_0_0 l0 xsi409 (i409 + 1))))
set_option maxHeartbeats 1000000 in
theorem slices_IndexFunc_api_Write_api_Write.r1_eq (k : Nat) (a1_0_0 : Int) (l0 : List S55)  (hs : l0.length < 4611686018427387904) : ∀ (m i409 : Nat), l0.length < m + i409 → i409 ≤ l0.length → slices_IndexFunc_api_Write_api_Write.l1 k a1_0_0 l0 m (i409 : Int) = slices_IndexFunc_api_Write_api_Write.r1 k a1_0_0 l0 (l0.drop i409) i409 := by
  intro m
  induction m with
  | zero => intro i409 h hi; omega
  | succ m ih =>
    intro i409 h hi
    by_cases hc : i409 < l0.length
    · have hw : wrap64 ((i409 : Int) + 1) = ((i409 + 1 : Nat) : Int) := by unfold wrap64; omega
      have hg : l0[(i409 : Int).toNat]? = some l0[i409] := by rw [Int.toNat_natCast]; exact List.getElem?_eq_getElem hc
      have ih2 := ih (i409 + 1) (by omega) (by omega)
      rw [List.drop_eq_getElem_cons hc, slices_IndexFunc_api_Write_api_Write.l1, slices_IndexFunc_api_Write_api_Write.r1, if_pos (by omega), if_pos (by omega), hg, Option.bind_some]
      simp only [hw, ih2]
    · rw [List.drop_of_length_le (by omega), slices_IndexFunc_api_Write_api_Write.l1, slices_IndexFunc_api_Write_api_Write.r1, if_neg (by omega)]
def disk_Crash.r3 (k : Nat) (a1 : Int) (a2 : Int) (l0_1 : List S55) : List S55 → Nat → (List ByteArray) → Int → Option (List ByteArray × List S55 × Int)
  | [], i965, l963, i964 => (disk_Crash.j2 k a2 l0_1 l963 i964)
  | x1012 :: xsi965, i965, l963, i964 => (if (Go.bits .and .u64 (a1.fdiv (2 ^ min (i965 : Int).toNat IntKind.u64.bits)) 1) = 1 then (if 0 ≤ x1012.f0 then ((l963[x1012.f0.toNat]?).bind fun x1019 => (disk_Crash.r3 k a1 a2 l0_1 xsi965 (i965 + 1) (l963.set x1012.f0.toNat x1012.f1) i964)) else none) else (disk_Crash.r3 k a1 a2 l0_1 xsi965 (i965 + 1) l963 (i965 : Int)))
set_option maxHeartbeats 1000000 in
theorem disk_Crash.r3_eq (k : Nat) (a1 : Int) (a2 : Int) (l0_1 : List S55)  (hs : l0_1.length < 4611686018427387904) : ∀ (m i965 : Nat) (l963 : List ByteArray) (i964 : Int), l0_1.length < m + i965 → i965 ≤ l0_1.length → disk_Crash.l3 k a1 a2 l0_1 m l963 i964 (i965 : Int) = disk_Crash.r3 k a1 a2 l0_1 (l0_1.drop i965) i965 l963 i964 := by
  intro m
  induction m with
  | zero => intro i965 l963 i964 h hi; omega
  | succ m ih =>
    intro i965 l963 i964 h hi
    by_cases hc : i965 < l0_1.length
    · have hw : wrap64 ((i965 : Int) + 1) = ((i965 + 1 : Nat) : Int) := by unfold wrap64; omega
      have hg : l0_1[(i965 : Int).toNat]? = some l0_1[i965] := by rw [Int.toNat_natCast]; exact List.getElem?_eq_getElem hc
      have ih2 := fun l963 i964 => ih (i965 + 1) l963 i964 (by omega) (by omega)
      rw [List.drop_eq_getElem_cons hc, disk_Crash.l3, disk_Crash.r3, if_pos (by omega), if_pos (by omega), hg, Option.bind_some]
      simp only [hw, ih2]
    · rw [List.drop_of_length_le (by omega), disk_Crash.l3, disk_Crash.r3, if_neg (by omega)]
-- journal_read.l15: no index
-- journal_read.l11: no index
-- pack_ReadNumber.l3: another shape
-- check_Table.l9: no index
-- check_Table.l5: no index
-- check_On.l1: another shape
-- check_Bytes.l1: no index
-- frame_Scan.l1: no index
def journal_Open.r8 (k : Nat) (l0_0 : List ByteArray) (l0_1 : List S55) : List ByteArray → Nat → (List ByteArray) → (List S55) → Int → Int → Int → (List ByteArray) → (List ByteArray) → Option (List ByteArray × List S55 × Int × Int × Int × List ByteArray × List ByteArray × Int)
  | [], i6618, l6621, l6625, i6627, i6628, i6629, l6632, l6636 => (journal_Open.j7 k l0_0 l0_1 l6621 l6625 i6627 i6628 i6629 l6632 l6636)
  | x6726 :: xsi6618, i6618, l6621, l6625, i6627, i6628, i6629, l6632, l6636 => ((journal_read.f k (i6618 : Int) x6726 (l0_0.length : Int)).bind fun ⟨r6729, r6730, t6731, t6732, t6733, r6734, r6735, t6736⟩ => (if t6736 = true then (if t6731 > i6627 then (journal_Open.r8 k l0_0 l0_1 xsi6618 (i6618 + 1) r6729 r6730 t6731 t6732 t6733 r6734 r6735) else (journal_Open.r8 k l0_0 l0_1 xsi6618 (i6618 + 1) l6621 l6625 i6627 i6628 i6629 l6632 l6636)) else (journal_Open.r8 k l0_0 l0_1 xsi6618 (i6618 + 1) l6621 l6625 i6627 i6628 i6629 l6632 l6636)))
set_option maxHeartbeats 1000000 in
theorem journal_Open.r8_eq (k : Nat) (l0_0 : List ByteArray) (l0_1 : List S55)  (hs : ((l0_0.take 2).drop 0).length < 4611686018427387904) : ∀ (m i6618 : Nat) (l6621 : List ByteArray) (l6625 : List S55) (i6627 : Int) (i6628 : Int) (i6629 : Int) (l6632 : List ByteArray) (l6636 : List ByteArray), ((l0_0.take 2).drop 0).length < m + i6618 → i6618 ≤ ((l0_0.take 2).drop 0).length → journal_Open.l8 k l0_0 l0_1 m (i6618 : Int) l6621 l6625 i6627 i6628 i6629 l6632 l6636 = journal_Open.r8 k l0_0 l0_1 (((l0_0.take 2).drop 0).drop i6618) i6618 l6621 l6625 i6627 i6628 i6629 l6632 l6636 := by
  intro m
  induction m with
  | zero => intro i6618 l6621 l6625 i6627 i6628 i6629 l6632 l6636 h hi; omega
  | succ m ih =>
    intro i6618 l6621 l6625 i6627 i6628 i6629 l6632 l6636 h hi
    by_cases hc : i6618 < ((l0_0.take 2).drop 0).length
    · have hw : wrap64 ((i6618 : Int) + 1) = ((i6618 + 1 : Nat) : Int) := by unfold wrap64; omega
      have hg : ((l0_0.take 2).drop 0)[(i6618 : Int).toNat]? = some ((l0_0.take 2).drop 0)[i6618] := by rw [Int.toNat_natCast]; exact List.getElem?_eq_getElem hc
      have ih2 := fun l6621 l6625 i6627 i6628 i6629 l6632 l6636 => ih (i6618 + 1) l6621 l6625 i6627 i6628 i6629 l6632 l6636 (by omega) (by omega)
      rw [List.drop_eq_getElem_cons hc, journal_Open.l8, journal_Open.r8, if_pos (by omega), if_pos (by omega), hg, Option.bind_some]
      simp only [hw, ih2]
    · rw [List.drop_of_length_le (by omega), journal_Open.l8, journal_Open.r8, if_neg (by omega)]
def slices_Equal_string_string.r1 (k : Nat) (l0 : List ByteArray) (l1 : List ByteArray) : List ByteArray → Nat → Option (Bool)
  | [], i7032 => (some true)
  | x7055 :: xsi7032, i7032 => ((l1[(i7032 : Int).toNat]?).bind fun x7056 => (if (x7055 == x7056) = true then (slices_Equal_string_string.r1 k l0 l1 xsi7032 (i7032 + 1)) else (some false)))
set_option maxHeartbeats 1000000 in
theorem slices_Equal_string_string.r1_eq (k : Nat) (l0 : List ByteArray) (l1 : List ByteArray)  (hs : l0.length < 4611686018427387904) : ∀ (m i7032 : Nat), l0.length < m + i7032 → i7032 ≤ l0.length → slices_Equal_string_string.l1 k l0 l1 m (i7032 : Int) = slices_Equal_string_string.r1 k l0 l1 (l0.drop i7032) i7032 := by
  intro m
  induction m with
  | zero => intro i7032 h hi; omega
  | succ m ih =>
    intro i7032 h hi
    by_cases hc : i7032 < l0.length
    · have hw : wrap64 ((i7032 : Int) + 1) = ((i7032 + 1 : Nat) : Int) := by unfold wrap64; omega
      have hg : l0[(i7032 : Int).toNat]? = some l0[i7032] := by rw [Int.toNat_natCast]; exact List.getElem?_eq_getElem hc
      have ih2 := ih (i7032 + 1) (by omega) (by omega)
      rw [List.drop_eq_getElem_cons hc, slices_Equal_string_string.l1, slices_Equal_string_string.r1, if_pos (by omega), if_pos (by omega), hg, Option.bind_some]
      simp only [hw, ih2]
    · rw [List.drop_of_length_le (by omega), slices_Equal_string_string.l1, slices_Equal_string_string.r1, if_neg (by omega)]
def slices_IndexFunc_string_string_s32.r1 (k : Nat) (l0 : List ByteArray) : List ByteArray → Nat → Option (Int)
  | [], i7146 => (some (-1))
  | x7175 :: xsi7146, i7146 => ((journal_waits_1.f x7175).bind fun t7178 => (if t7178 = true then (some (i7146 : Int)) else (slices_IndexFunc_string_string_s32.r1 k l0 xsi7146 (i7146 + 1))))
set_option maxHeartbeats 1000000 in
theorem slices_IndexFunc_string_string_s32.r1_eq (k : Nat) (l0 : List ByteArray)  (hs : l0.length < 4611686018427387904) : ∀ (m i7146 : Nat), l0.length < m + i7146 → i7146 ≤ l0.length → slices_IndexFunc_string_string_s32.l1 k l0 m (i7146 : Int) = slices_IndexFunc_string_string_s32.r1 k l0 (l0.drop i7146) i7146 := by
  intro m
  induction m with
  | zero => intro i7146 h hi; omega
  | succ m ih =>
    intro i7146 h hi
    by_cases hc : i7146 < l0.length
    · have hw : wrap64 ((i7146 : Int) + 1) = ((i7146 + 1 : Nat) : Int) := by unfold wrap64; omega
      have hg : l0[(i7146 : Int).toNat]? = some l0[i7146] := by rw [Int.toNat_natCast]; exact List.getElem?_eq_getElem hc
      have ih2 := ih (i7146 + 1) (by omega) (by omega)
      rw [List.drop_eq_getElem_cons hc, slices_IndexFunc_string_string_s32.l1, slices_IndexFunc_string_string_s32.r1, if_pos (by omega), if_pos (by omega), hg, Option.bind_some]
      simp only [hw, ih2]
    · rw [List.drop_of_length_le (by omega), slices_IndexFunc_string_string_s32.l1, slices_IndexFunc_string_string_s32.r1, if_neg (by omega)]
-- pack_Number.l1: no index
-- pack_Number.l3: no index
-- disk_Get.l0: no index
-- journal_laid.l1: no index
def tarryref01_Same.r1 (k : Nat) (l0 : List ByteArray) (l1 : List ByteArray) : List ByteArray → Nat → Option (Bool)
  | [], i9249 => (some true)
  | x9272 :: xsi9249, i9249 => ((l1[(i9249 : Int).toNat]?).bind fun x9273 => (if (x9272 == x9273) = true then (tarryref01_Same.r1 k l0 l1 xsi9249 (i9249 + 1)) else (some false)))
set_option maxHeartbeats 1000000 in
theorem tarryref01_Same.r1_eq (k : Nat) (l0 : List ByteArray) (l1 : List ByteArray)  (hs : l0.length < 4611686018427387904) : ∀ (m i9249 : Nat), l0.length < m + i9249 → i9249 ≤ l0.length → tarryref01_Same.l1 k l0 l1 m (i9249 : Int) = tarryref01_Same.r1 k l0 l1 (l0.drop i9249) i9249 := by
  intro m
  induction m with
  | zero => intro i9249 h hi; omega
  | succ m ih =>
    intro i9249 h hi
    by_cases hc : i9249 < l0.length
    · have hw : wrap64 ((i9249 : Int) + 1) = ((i9249 + 1 : Nat) : Int) := by unfold wrap64; omega
      have hg : l0[(i9249 : Int).toNat]? = some l0[i9249] := by rw [Int.toNat_natCast]; exact List.getElem?_eq_getElem hc
      have ih2 := ih (i9249 + 1) (by omega) (by omega)
      rw [List.drop_eq_getElem_cons hc, tarryref01_Same.l1, tarryref01_Same.r1, if_pos (by omega), if_pos (by omega), hg, Option.bind_some]
      simp only [hw, ih2]
    · rw [List.drop_of_length_le (by omega), tarryref01_Same.l1, tarryref01_Same.r1, if_neg (by omega)]
def tarrylaw05_JournalLives.r17 (k : Nat) (l1 : List S52) : List S52 → Nat → (List ByteArray) → (List S55) → Int → Int → Int → (List ByteArray) → (List ByteArray) → Option (Bool)
  | [], i26018, l26021, l26024, i26025, i26026, i26027, l26030, l26033 => ((tarrylaw05_alive.f k).bind fun t34570 => (some t34570))
  | x32457 :: xsi26018, i26018, l26021, l26024, i26025, i26026, i26027, l26030, l26033 => (if (i26018 : Int) ≥ 16 then ((tarrylaw05_alive.f k).bind fun t32467 => (some t32467)) else (if 0 ≤ mn (x32457.f1.size : Int) 150 then (if (mn (x32457.f1.size : Int) 150) ≤ (x32457.f1.size : Int) then (if (([] : List ByteArray).length + l26033.length) * 16 ≤ 140737488355328 then (if ((([] : List ByteArray) ++ l26033).length + l26030.length) * 16 ≤ 140737488355328 then (if ((wrap64 ((x32457.f0.tmod 5) + 5)).tmod 5) = 0 then ((journal_Append.f k l26021 l26024 i26025 i26026 i26027 l26030 l26033 (x32457.f1.extract 0 ((mn (x32457.f1.size : Int) 150).toNat))).bind fun ⟨r34283, r34284, t34285, t34286, t34287, r34288, r34289, t34290⟩ => ((fun (l34498 : List ByteArray) (l34501 : List ByteArray) (i34502 : Int) (q34503 : Bool) (q34504 : Bool) (q34505 : Bool) (l34508 : List ByteArray) (l34511 : List S55) (i34512 : Int) (i34513 : Int) (i34514 : Int) (l34517 : List ByteArray) (l34520 : List ByteArray) (q34521 : Bool) => (if i34502 = 7 then (tarrylaw05_JournalLives.r17 k l1 xsi26018 (i26018 + 1) l26021 l26024 i26025 i26026 i26027 l26030 l26033) else (if i34502 = 0 then ((tarryref01_Same.f k l34520 l34498).bind fun t34552 => (if t34552 = true then ((journal_Right.f k l34508 l34511 i34512 i34513 i34514 l34517 l34520).bind fun t34558 => (if t34558 = true then (tarrylaw05_JournalLives.r17 k l1 xsi26018 (i26018 + 1) l34508 l34511 i34512 i34513 i34514 l34517 l34520) else none)) else ((tarryref01_Same.f k l34520 l34501).bind fun t34561 => (if t34561 = true then ((journal_Right.f k l34508 l34511 i34512 i34513 i34514 l34517 l34520).bind fun t34567 => (if t34567 = true then (tarrylaw05_JournalLives.r17 k l1 xsi26018 (i26018 + 1) l34508 l34511 i34512 i34513 i34514 l34517 l34520) else none)) else none)))) else none))) l26033 l26033 t34290 x32457.f2 true true r34283 r34284 t34285 t34286 t34287 r34288 r34289 x32457.f2)) else (if ((wrap64 ((x32457.f0.tmod 5) + 5)).tmod 5) = 1 then ((journal_Commit.f k l26021 l26024 i26025 i26026 i26027 l26030 l26033).bind fun ⟨r34302, r34303, t34304, t34305, t34306, r34307, r34308, t34309⟩ => ((fun (l34498 : List ByteArray) (l34501 : List ByteArray) (i34502 : Int) (q34503 : Bool) (q34504 : Bool) (q34505 : Bool) (l34508 : List ByteArray) (l34511 : List S55) (i34512 : Int) (i34513 : Int) (i34514 : Int) (l34517 : List ByteArray) (l34520 : List ByteArray) (q34521 : Bool) => (if i34502 = 7 then (tarrylaw05_JournalLives.r17 k l1 xsi26018 (i26018 + 1) l26021 l26024 i26025 i26026 i26027 l26030 l26033) else (if i34502 = 0 then ((tarryref01_Same.f k l34520 l34498).bind fun t34552 => (if t34552 = true then ((journal_Right.f k l34508 l34511 i34512 i34513 i34514 l34517 l34520).bind fun t34558 => (if t34558 = true then (tarrylaw05_JournalLives.r17 k l1 xsi26018 (i26018 + 1) l34508 l34511 i34512 i34513 i34514 l34517 l34520) else none)) else ((tarryref01_Same.f k l34520 l34501).bind fun t34561 => (if t34561 = true then ((journal_Right.f k l34508 l34511 i34512 i34513 i34514 l34517 l34520).bind fun t34567 => (if t34567 = true then (tarrylaw05_JournalLives.r17 k l1 xsi26018 (i26018 + 1) l34508 l34511 i34512 i34513 i34514 l34517 l34520) else none)) else none)))) else none))) ((([] : List ByteArray) ++ l26033) ++ l26030) ((([] : List ByteArray) ++ l26033) ++ l26030) t34309 x32457.f2 false false r34302 r34303 t34304 t34305 t34306 r34307 r34308 x32457.f2)) else (if ((wrap64 ((x32457.f0.tmod 5) + 5)).tmod 5) = 2 then ((journal_Compact.f k l26021 l26024 i26025 i26026 i26027 l26030 l26033 (x32457.f1.extract 0 ((mn (x32457.f1.size : Int) 150).toNat))).bind fun ⟨r34321, r34322, t34323, t34324, t34325, r34326, r34327, t34328⟩ => ((fun (l34498 : List ByteArray) (l34501 : List ByteArray) (i34502 : Int) (q34503 : Bool) (q34504 : Bool) (q34505 : Bool) (l34508 : List ByteArray) (l34511 : List S55) (i34512 : Int) (i34513 : Int) (i34514 : Int) (l34517 : List ByteArray) (l34520 : List ByteArray) (q34521 : Bool) => (if i34502 = 7 then (tarrylaw05_JournalLives.r17 k l1 xsi26018 (i26018 + 1) l26021 l26024 i26025 i26026 i26027 l26030 l26033) else (if i34502 = 0 then ((tarryref01_Same.f k l34520 l34498).bind fun t34552 => (if t34552 = true then ((journal_Right.f k l34508 l34511 i34512 i34513 i34514 l34517 l34520).bind fun t34558 => (if t34558 = true then (tarrylaw05_JournalLives.r17 k l1 xsi26018 (i26018 + 1) l34508 l34511 i34512 i34513 i34514 l34517 l34520) else none)) else ((tarryref01_Same.f k l34520 l34501).bind fun t34561 => (if t34561 = true then ((journal_Right.f k l34508 l34511 i34512 i34513 i34514 l34517 l34520).bind fun t34567 => (if t34567 = true then (tarrylaw05_JournalLives.r17 k l1 xsi26018 (i26018 + 1) l34508 l34511 i34512 i34513 i34514 l34517 l34520) else none)) else none)))) else none))) ([x32457.f1.extract 0 ((mn (x32457.f1.size : Int) 150).toNat)] : List ByteArray) ([x32457.f1.extract 0 ((mn (x32457.f1.size : Int) 150).toNat)] : List ByteArray) t34328 x32457.f2 false false r34321 r34322 t34323 t34324 t34325 r34326 r34327 x32457.f2)) else (if ((wrap64 ((x32457.f0.tmod 5) + 5)).tmod 5) = 4 then (if (⟨#[119]⟩ : ByteArray).size + (x32457.f1.extract 0 ((mn (x32457.f1.size : Int) 150).toNat)).size ≤ 9223372036854775807 then (if x32457.f2 = true then ((journal_Crash.f k l26021 l26024 i26025 i26026 i26027 l26030 l26033 ((⟨#[119]⟩ : ByteArray) ++ (x32457.f1.extract 0 ((mn (x32457.f1.size : Int) 150).toNat))) true x32457.f3 x32457.f4).bind fun ⟨r34356, r34357, t34358⟩ => (if t34358 = 7 then (tarrylaw05_JournalLives.r17 k l1 xsi26018 (i26018 + 1) l26021 l26024 i26025 i26026 i26027 l26030 l26033) else (if t34358 = 0 then ((journal_Open.f k r34356 r34357).bind fun ⟨r34373, r34374, t34375, t34376, t34377, r34378, r34379, t34380⟩ => ((fun (l34498 : List ByteArray) (l34501 : List ByteArray) (i34502 : Int) (q34503 : Bool) (q34504 : Bool) (q34505 : Bool) (l34508 : List ByteArray) (l34511 : List S55) (i34512 : Int) (i34513 : Int) (i34514 : Int) (l34517 : List ByteArray) (l34520 : List ByteArray) (q34521 : Bool) => (if i34502 = 7 then (tarrylaw05_JournalLives.r17 k l1 xsi26018 (i26018 + 1) l26021 l26024 i26025 i26026 i26027 l26030 l26033) else (if i34502 = 0 then ((tarryref01_Same.f k l34520 l34498).bind fun t34552 => (if t34552 = true then ((journal_Right.f k l34508 l34511 i34512 i34513 i34514 l34517 l34520).bind fun t34558 => (if t34558 = true then (tarrylaw05_JournalLives.r17 k l1 xsi26018 (i26018 + 1) l34508 l34511 i34512 i34513 i34514 l34517 l34520) else none)) else ((tarryref01_Same.f k l34520 l34501).bind fun t34561 => (if t34561 = true then ((journal_Right.f k l34508 l34511 i34512 i34513 i34514 l34517 l34520).bind fun t34567 => (if t34567 = true then (tarrylaw05_JournalLives.r17 k l1 xsi26018 (i26018 + 1) l34508 l34511 i34512 i34513 i34514 l34517 l34520) else none)) else none)))) else none))) l26033 ([(⟨#[119]⟩ : ByteArray) ++ (x32457.f1.extract 0 ((mn (x32457.f1.size : Int) 150).toNat))] : List ByteArray) t34380 true false false r34373 r34374 t34375 t34376 t34377 r34378 r34379 true)) else none))) else ((journal_Crash.f k l26021 l26024 i26025 i26026 i26027 l26030 l26033 ((⟨#[119]⟩ : ByteArray) ++ (x32457.f1.extract 0 ((mn (x32457.f1.size : Int) 150).toNat))) false x32457.f3 x32457.f4).bind fun ⟨r34390, r34391, t34392⟩ => (if t34392 = 7 then (tarrylaw05_JournalLives.r17 k l1 xsi26018 (i26018 + 1) l26021 l26024 i26025 i26026 i26027 l26030 l26033) else (if t34392 = 0 then ((journal_Open.f k r34390 r34391).bind fun ⟨r34407, r34408, t34409, t34410, t34411, r34412, r34413, t34414⟩ => ((fun (l34498 : List ByteArray) (l34501 : List ByteArray) (i34502 : Int) (q34503 : Bool) (q34504 : Bool) (q34505 : Bool) (l34508 : List ByteArray) (l34511 : List S55) (i34512 : Int) (i34513 : Int) (i34514 : Int) (l34517 : List ByteArray) (l34520 : List ByteArray) (q34521 : Bool) => (if i34502 = 7 then (tarrylaw05_JournalLives.r17 k l1 xsi26018 (i26018 + 1) l26021 l26024 i26025 i26026 i26027 l26030 l26033) else (if i34502 = 0 then ((tarryref01_Same.f k l34520 l34498).bind fun t34552 => (if t34552 = true then ((journal_Right.f k l34508 l34511 i34512 i34513 i34514 l34517 l34520).bind fun t34558 => (if t34558 = true then (tarrylaw05_JournalLives.r17 k l1 xsi26018 (i26018 + 1) l34508 l34511 i34512 i34513 i34514 l34517 l34520) else none)) else ((tarryref01_Same.f k l34520 l34501).bind fun t34561 => (if t34561 = true then ((journal_Right.f k l34508 l34511 i34512 i34513 i34514 l34517 l34520).bind fun t34567 => (if t34567 = true then (tarrylaw05_JournalLives.r17 k l1 xsi26018 (i26018 + 1) l34508 l34511 i34512 i34513 i34514 l34517 l34520) else none)) else none)))) else none))) l26033 l26033 t34414 false false false r34407 r34408 t34409 t34410 t34411 r34412 r34413 false)) else none)))) else none) else (if x32457.f2 = true then ((journal_Crash.f k l26021 l26024 i26025 i26026 i26027 l26030 l26033 (⟨#[]⟩ : ByteArray) true x32457.f3 x32457.f4).bind fun ⟨r34428, r34429, t34430⟩ => (if t34430 = 7 then (tarrylaw05_JournalLives.r17 k l1 xsi26018 (i26018 + 1) l26021 l26024 i26025 i26026 i26027 l26030 l26033) else (if t34430 = 0 then ((journal_Open.f k r34428 r34429).bind fun ⟨r34445, r34446, t34447, t34448, t34449, r34450, r34451, t34452⟩ => ((fun (l34498 : List ByteArray) (l34501 : List ByteArray) (i34502 : Int) (q34503 : Bool) (q34504 : Bool) (q34505 : Bool) (l34508 : List ByteArray) (l34511 : List S55) (i34512 : Int) (i34513 : Int) (i34514 : Int) (l34517 : List ByteArray) (l34520 : List ByteArray) (q34521 : Bool) => (if i34502 = 7 then (tarrylaw05_JournalLives.r17 k l1 xsi26018 (i26018 + 1) l26021 l26024 i26025 i26026 i26027 l26030 l26033) else (if i34502 = 0 then ((tarryref01_Same.f k l34520 l34498).bind fun t34552 => (if t34552 = true then ((journal_Right.f k l34508 l34511 i34512 i34513 i34514 l34517 l34520).bind fun t34558 => (if t34558 = true then (tarrylaw05_JournalLives.r17 k l1 xsi26018 (i26018 + 1) l34508 l34511 i34512 i34513 i34514 l34517 l34520) else none)) else ((tarryref01_Same.f k l34520 l34501).bind fun t34561 => (if t34561 = true then ((journal_Right.f k l34508 l34511 i34512 i34513 i34514 l34517 l34520).bind fun t34567 => (if t34567 = true then (tarrylaw05_JournalLives.r17 k l1 xsi26018 (i26018 + 1) l34508 l34511 i34512 i34513 i34514 l34517 l34520) else none)) else none)))) else none))) l26033 ((([] : List ByteArray) ++ l26033) ++ l26030) t34452 true false false r34445 r34446 t34447 t34448 t34449 r34450 r34451 true)) else none))) else ((journal_Crash.f k l26021 l26024 i26025 i26026 i26027 l26030 l26033 (⟨#[]⟩ : ByteArray) false x32457.f3 x32457.f4).bind fun ⟨r34462, r34463, t34464⟩ => (if t34464 = 7 then (tarrylaw05_JournalLives.r17 k l1 xsi26018 (i26018 + 1) l26021 l26024 i26025 i26026 i26027 l26030 l26033) else (if t34464 = 0 then ((journal_Open.f k r34462 r34463).bind fun ⟨r34479, r34480, t34481, t34482, t34483, r34484, r34485, t34486⟩ => ((fun (l34498 : List ByteArray) (l34501 : List ByteArray) (i34502 : Int) (q34503 : Bool) (q34504 : Bool) (q34505 : Bool) (l34508 : List ByteArray) (l34511 : List S55) (i34512 : Int) (i34513 : Int) (i34514 : Int) (l34517 : List ByteArray) (l34520 : List ByteArray) (q34521 : Bool) => (if i34502 = 7 then (tarrylaw05_JournalLives.r17 k l1 xsi26018 (i26018 + 1) l26021 l26024 i26025 i26026 i26027 l26030 l26033) else (if i34502 = 0 then ((tarryref01_Same.f k l34520 l34498).bind fun t34552 => (if t34552 = true then ((journal_Right.f k l34508 l34511 i34512 i34513 i34514 l34517 l34520).bind fun t34558 => (if t34558 = true then (tarrylaw05_JournalLives.r17 k l1 xsi26018 (i26018 + 1) l34508 l34511 i34512 i34513 i34514 l34517 l34520) else none)) else ((tarryref01_Same.f k l34520 l34501).bind fun t34561 => (if t34561 = true then ((journal_Right.f k l34508 l34511 i34512 i34513 i34514 l34517 l34520).bind fun t34567 => (if t34567 = true then (tarrylaw05_JournalLives.r17 k l1 xsi26018 (i26018 + 1) l34508 l34511 i34512 i34513 i34514 l34517 l34520) else none)) else none)))) else none))) l26033 l26033 t34486 false false false r34479 r34480 t34481 t34482 t34483 r34484 r34485 false)) else none)))))))) else none) else none) else none) else none))
set_option maxHeartbeats 1000000 in
theorem tarrylaw05_JournalLives.r17_eq (k : Nat) (l1 : List S52)  (hs : l1.length < 4611686018427387904) : ∀ (m i26018 : Nat) (l26021 : List ByteArray) (l26024 : List S55) (i26025 : Int) (i26026 : Int) (i26027 : Int) (l26030 : List ByteArray) (l26033 : List ByteArray), l1.length < m + i26018 → i26018 ≤ l1.length → tarrylaw05_JournalLives.l17 k l1 m (i26018 : Int) l26021 l26024 i26025 i26026 i26027 l26030 l26033 = tarrylaw05_JournalLives.r17 k l1 (l1.drop i26018) i26018 l26021 l26024 i26025 i26026 i26027 l26030 l26033 := by
  intro m
  induction m with
  | zero => intro i26018 l26021 l26024 i26025 i26026 i26027 l26030 l26033 h hi; omega
  | succ m ih =>
    intro i26018 l26021 l26024 i26025 i26026 i26027 l26030 l26033 h hi
    by_cases hc : i26018 < l1.length
    · have hw : wrap64 ((i26018 : Int) + 1) = ((i26018 + 1 : Nat) : Int) := by unfold wrap64; omega
      have hg : l1[(i26018 : Int).toNat]? = some l1[i26018] := by rw [Int.toNat_natCast]; exact List.getElem?_eq_getElem hc
      have ih2 := fun l26021 l26024 i26025 i26026 i26027 l26030 l26033 => ih (i26018 + 1) l26021 l26024 i26025 i26026 i26027 l26030 l26033 (by omega) (by omega)
      rw [List.drop_eq_getElem_cons hc, tarrylaw05_JournalLives.l17, tarrylaw05_JournalLives.r17, if_pos (by omega), if_pos (by omega), hg, Option.bind_some]
      simp only [tarrylaw05_JournalLives.j33, hw, ih2]
    · rw [List.drop_of_length_le (by omega), tarrylaw05_JournalLives.l17, tarrylaw05_JournalLives.r17, if_neg (by omega)]

end Go.Proofs.Ytipeglbeongfmaa.PJournalLives
