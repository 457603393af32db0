/- Written by a program of this repo: what the program's functions do, each as a Lean function, shown of the loaded code; or a statement's row over that; no condition of its own. -/
import Derived.Test.YtlfkendmepdbkaaPDiskCrashesx0
namespace Go.Proofs.Ytlfkendmepdbkaa.PDiskCrashes
open Go Go.RowKit Go.Proofs.YtlfkendmepdbkaaV
set_option linter.unusedVariables false
set_option linter.unusedSimpArgs false

def tarrylaw03_few.r5 (k : Nat) (l0_1 : List S32) (l81 : List ByteArray) : List S32 → (List S32) → Option (List ByteArray × List S32)
  | [], l295 => (some (l81, l295))
  | x316 :: xsi292, l295 => (if 0 ≤ mn (x316.f1.size : Int) 66 then (if (mn (x316.f1.size : Int) 66) ≤ (x316.f1.size : Int) then (if (l295.length + ([(⟨x316.f0, x316.f1.extract 0 ((mn (x316.f1.size : Int) 66).toNat)⟩ : S32)] : List S32).length) * 24 ≤ 140737488355328 then (tarrylaw03_few.r5 k l0_1 l81 xsi292 (l295 ++ ([(⟨x316.f0, x316.f1.extract 0 ((mn (x316.f1.size : Int) 66).toNat)⟩ : S32)] : List S32))) else none) else none) else none)
set_option maxHeartbeats 1000000 in
theorem tarrylaw03_few.r5_eq (k : Nat) (l0_1 : List S32) (l81 : List ByteArray)  (hs : ((l0_1.take ((mn (l0_1.length : Int) 66).toNat)).drop 0).length < 4611686018427387904) : ∀ (m i292 : Nat) (l295 : List S32), ((l0_1.take ((mn (l0_1.length : Int) 66).toNat)).drop 0).length < m + i292 → i292 ≤ ((l0_1.take ((mn (l0_1.length : Int) 66).toNat)).drop 0).length → tarrylaw03_few.l5 k l0_1 l81 m (i292 : Int) l295 = tarrylaw03_few.r5 k l0_1 l81 (((l0_1.take ((mn (l0_1.length : Int) 66).toNat)).drop 0).drop i292) l295 := by
  intro m
  induction m with
  | zero => intro i292 l295 h hi; omega
  | succ m ih =>
    intro i292 l295 h hi
    by_cases hc : i292 < ((l0_1.take ((mn (l0_1.length : Int) 66).toNat)).drop 0).length
    · have hw : wrap64 ((i292 : Int) + 1) = ((i292 + 1 : Nat) : Int) := by unfold wrap64; omega
      have hg : ((l0_1.take ((mn (l0_1.length : Int) 66).toNat)).drop 0)[(i292 : Int).toNat]? = some ((l0_1.take ((mn (l0_1.length : Int) 66).toNat)).drop 0)[i292] := by rw [Int.toNat_natCast]; exact List.getElem?_eq_getElem hc
      have ih2 := fun l295 => ih (i292 + 1) l295 (by omega) (by omega)
      rw [List.drop_eq_getElem_cons hc, tarrylaw03_few.l5, tarrylaw03_few.r5, if_pos (by omega), if_pos (by omega), hg, Option.bind_some]
      simp only [hw, ih2]
    · rw [List.drop_of_length_le (by omega), tarrylaw03_few.l5, tarrylaw03_few.r5, if_neg (by omega)]
def tarrylaw03_few.r1 (k : Nat) (l0_0 : List ByteArray) (l0_1 : List S32) : List ByteArray → (List ByteArray) → Option (List ByteArray × List S32)
  | [], l81 => (if 0 ≤ mn (l0_1.length : Int) 66 then (if (mn (l0_1.length : Int) 66) ≤ (l0_1.length : Int) then (tarrylaw03_few.r5 k l0_1 l81 ((l0_1.take ((mn (l0_1.length : Int) 66).toNat)).drop 0) ([] : List S32)) else none) else none)
  | x209 :: xsi78, l81 => (if 0 ≤ mn (x209.size : Int) 66 then (if (mn (x209.size : Int) 66) ≤ (x209.size : Int) then (if (l81.length + ([x209.extract 0 ((mn (x209.size : Int) 66).toNat)] : List ByteArray).length) * 16 ≤ 140737488355328 then (tarrylaw03_few.r1 k l0_0 l0_1 xsi78 (l81 ++ ([x209.extract 0 ((mn (x209.size : Int) 66).toNat)] : List ByteArray))) else none) else none) else none)
set_option maxHeartbeats 1000000 in
theorem tarrylaw03_few.r1_eq (k : Nat) (l0_0 : List ByteArray) (l0_1 : List S32) (hl5_0 : ((l0_1.take ((mn (l0_1.length : Int) 66).toNat)).drop 0).length < k ∧ ((l0_1.take ((mn (l0_1.length : Int) 66).toNat)).drop 0).length < 4611686018427387904) (hs : ((l0_0.take ((mn (l0_0.length : Int) 20).toNat)).drop 0).length < 4611686018427387904) : ∀ (m i78 : Nat) (l81 : List ByteArray), ((l0_0.take ((mn (l0_0.length : Int) 20).toNat)).drop 0).length < m + i78 → i78 ≤ ((l0_0.take ((mn (l0_0.length : Int) 20).toNat)).drop 0).length → tarrylaw03_few.l1 k l0_0 l0_1 m (i78 : Int) l81 = tarrylaw03_few.r1 k l0_0 l0_1 (((l0_0.take ((mn (l0_0.length : Int) 20).toNat)).drop 0).drop i78) l81 := by
  intro m
  induction m with
  | zero => intro i78 l81 h hi; omega
  | succ m ih =>
    intro i78 l81 h hi
    by_cases hc : i78 < ((l0_0.take ((mn (l0_0.length : Int) 20).toNat)).drop 0).length
    · have hw : wrap64 ((i78 : Int) + 1) = ((i78 + 1 : Nat) : Int) := by unfold wrap64; omega
      have hg : ((l0_0.take ((mn (l0_0.length : Int) 20).toNat)).drop 0)[(i78 : Int).toNat]? = some ((l0_0.take ((mn (l0_0.length : Int) 20).toNat)).drop 0)[i78] := by rw [Int.toNat_natCast]; exact List.getElem?_eq_getElem hc
      have ih2 := fun l81 => ih (i78 + 1) l81 (by omega) (by omega)
      rw [List.drop_eq_getElem_cons hc, tarrylaw03_few.l1, tarrylaw03_few.r1, if_pos (by omega), if_pos (by omega), hg, Option.bind_some]
      have el5 : ∀ (l81 : List ByteArray) (l295 : List S32), tarrylaw03_few.l5 k l0_1 l81 k 0 l295 = tarrylaw03_few.r5 k l0_1 l81 ((l0_1.take ((mn (l0_1.length : Int) 66).toNat)).drop 0) l295 := fun l81 l295 => tarrylaw03_few.r5_eq k l0_1 l81 (hl5_0).2 k 0 l295 (by have := (hl5_0).1; omega) (Nat.zero_le _)
      simp only [el5, hw, ih2]
    · rw [List.drop_of_length_le (by omega), tarrylaw03_few.l1, tarrylaw03_few.r1, if_neg (by omega)]
      have el5 : ∀ (l81 : List ByteArray) (l295 : List S32), tarrylaw03_few.l5 k l0_1 l81 k 0 l295 = tarrylaw03_few.r5 k l0_1 l81 ((l0_1.take ((mn (l0_1.length : Int) 66).toNat)).drop 0) l295 := fun l81 l295 => tarrylaw03_few.r5_eq k l0_1 l81 (hl5_0).2 k 0 l295 (by have := (hl5_0).1; omega) (Nat.zero_le _)
      try simp only [el5]
      try simp only [Int.natCast_zero]
def slices_IndexFunc_string_string.r1 (k : Nat) (l0 : List ByteArray) : List ByteArray → Nat → Option (Int)
  | [], i417 => (some (-1))
  | x446 :: xsi417, i417 => ((disk_Right_1.f x446).bind fun t449 => (if t449 = true then (some (i417 : Int)) else (slices_IndexFunc_string_string.r1 k l0 xsi417 (i417 + 1))))
set_option maxHeartbeats 1000000 in
theorem slices_IndexFunc_string_string.r1_eq (k : Nat) (l0 : List ByteArray)  (hs : l0.length < 4611686018427387904) : ∀ (m i417 : Nat), l0.length < m + i417 → i417 ≤ l0.length → slices_IndexFunc_string_string.l1 k l0 m (i417 : Int) = slices_IndexFunc_string_string.r1 k l0 (l0.drop i417) i417 := by
  intro m
  induction m with
  | zero => intro i417 h hi; omega
  | succ m ih =>
    intro i417 h hi
    by_cases hc : i417 < l0.length
    · have hw : wrap64 ((i417 : Int) + 1) = ((i417 + 1 : Nat) : Int) := by unfold wrap64; omega
      have hg : l0[(i417 : Int).toNat]? = some l0[i417] := by rw [Int.toNat_natCast]; exact List.getElem?_eq_getElem hc
      have ih2 := ih (i417 + 1) (by omega) (by omega)
      rw [List.drop_eq_getElem_cons hc, slices_IndexFunc_string_string.l1, slices_IndexFunc_string_string.r1, if_pos (by omega), if_pos (by omega), hg, Option.bind_some]
      simp only [hw, ih2]
    · rw [List.drop_of_length_le (by omega), slices_IndexFunc_string_string.l1, slices_IndexFunc_string_string.r1, if_neg (by omega)]
def slices_IndexFunc_api_Write_api_Write.r1 (k : Nat) (a1_0_0 : Int) (l0 : List S32) : List S32 → Nat → Option (Int)
  | [], i538 => (some (-1))
  | x567 :: xsi538, i538 => ((disk_Right_2.f x567.f0 x567.f1 a1_0_0).bind fun t570 => (if t570 = true then (some (i538 : Int)) else (slices_IndexFunc_api_Write_api_Write.r1 k a1_0_0 l0 xsi538 (i538 + 1))))
set_option maxHeartbeats 1000000 in
theorem slices_IndexFunc_api_Write_api_Write.r1_eq (k : Nat) (a1_0_0 : Int) (l0 : List S32)  (hs : l0.length < 4611686018427387904) : ∀ (m i538 : Nat), l0.length < m + i538 → i538 ≤ l0.length → slices_IndexFunc_api_Write_api_Write.l1 k a1_0_0 l0 m (i538 : Int) = slices_IndexFunc_api_Write_api_Write.r1 k a1_0_0 l0 (l0.drop i538) i538 := by
  intro m
  induction m with
  | zero => intro i538 h hi; omega
  | succ m ih =>
    intro i538 h hi
    by_cases hc : i538 < l0.length
    · have hw : wrap64 ((i538 : Int) + 1) = ((i538 + 1 : Nat) : Int) := by unfold wrap64; omega
      have hg : l0[(i538 : Int).toNat]? = some l0[i538] := by rw [Int.toNat_natCast]; exact List.getElem?_eq_getElem hc
      have ih2 := ih (i538 + 1) (by omega) (by omega)
      rw [List.drop_eq_getElem_cons hc, slices_IndexFunc_api_Write_api_Write.l1, slices_IndexFunc_api_Write_api_Write.r1, if_pos (by omega), if_pos (by omega), hg, Option.bind_some]
      simp only [hw, ih2]
    · rw [List.drop_of_length_le (by omega), slices_IndexFunc_api_Write_api_Write.l1, slices_IndexFunc_api_Write_api_Write.r1, if_neg (by omega)]
def disk_Crash.r3 (k : Nat) (a1 : Int) (a2 : Int) (l0_1 : List S32) : List S32 → Nat → (List ByteArray) → Int → Option (List ByteArray × List S32 × Int)
  | [], i952, l950, i951 => (disk_Crash.j2 k a2 l0_1 l950 i951)
  | x999 :: xsi952, i952, l950, i951 => (if (Go.bits .and .u64 (a1.fdiv (2 ^ min (i952 : Int).toNat IntKind.u64.bits)) 1) = 1 then (if 0 ≤ x999.f0 then ((l950[x999.f0.toNat]?).bind fun x1006 => (disk_Crash.r3 k a1 a2 l0_1 xsi952 (i952 + 1) (l950.set x999.f0.toNat x999.f1) i951)) else none) else (disk_Crash.r3 k a1 a2 l0_1 xsi952 (i952 + 1) l950 (i952 : Int)))
set_option maxHeartbeats 1000000 in
theorem disk_Crash.r3_eq (k : Nat) (a1 : Int) (a2 : Int) (l0_1 : List S32)  (hs : l0_1.length < 4611686018427387904) : ∀ (m i952 : Nat) (l950 : List ByteArray) (i951 : Int), l0_1.length < m + i952 → i952 ≤ l0_1.length → disk_Crash.l3 k a1 a2 l0_1 m l950 i951 (i952 : Int) = disk_Crash.r3 k a1 a2 l0_1 (l0_1.drop i952) i952 l950 i951 := by
  intro m
  induction m with
  | zero => intro i952 l950 i951 h hi; omega
  | succ m ih =>
    intro i952 l950 i951 h hi
    by_cases hc : i952 < l0_1.length
    · have hw : wrap64 ((i952 : Int) + 1) = ((i952 + 1 : Nat) : Int) := by unfold wrap64; omega
      have hg : l0_1[(i952 : Int).toNat]? = some l0_1[i952] := by rw [Int.toNat_natCast]; exact List.getElem?_eq_getElem hc
      have ih2 := fun l950 i951 => ih (i952 + 1) l950 i951 (by omega) (by omega)
      rw [List.drop_eq_getElem_cons hc, disk_Crash.l3, disk_Crash.r3, if_pos (by omega), if_pos (by omega), hg, Option.bind_some]
      simp only [hw, ih2]
    · rw [List.drop_of_length_le (by omega), disk_Crash.l3, disk_Crash.r3, if_neg (by omega)]
-- disk_Get.l0: no index
def tarrylaw03_DiskCrashes.r21 (k : Nat) (rec_l17 : Option (Bool)) (i11794 : Int) (i8762 : Int) (r328 : List S32) (x11491 : ByteArray) : List S32 → Bool → Bool → Option (Bool)
  | [], q12344, q12345 => (if q12344 = true then rec_l17 else none)
  | x12386 :: xsi12346, q12344, q12345 => (if q12344 = true then (tarrylaw03_DiskCrashes.r21 k rec_l17 i11794 i8762 r328 x11491 xsi12346 true q12345) else (if x12386.f0 = i8762 then (if i11794 < (x12386.f1.size : Int) then (tarrylaw03_DiskCrashes.r21 k rec_l17 i11794 i8762 r328 x11491 xsi12346 ((bt x12386.f1 i11794) == (bt x11491 i11794)) q12345) else none) else (tarrylaw03_DiskCrashes.r21 k rec_l17 i11794 i8762 r328 x11491 xsi12346 false q12345)))
set_option maxHeartbeats 1000000 in
theorem tarrylaw03_DiskCrashes.r21_eq (k : Nat) (rec_l17 : Int → Option (Bool)) (i11794 : Int) (i8762 : Int) (r328 : List S32) (x11491 : ByteArray)  (hs : r328.length < 4611686018427387904) : ∀ (m i12346 : Nat) (q12344 : Bool) (q12345 : Bool), r328.length < m + i12346 → i12346 ≤ r328.length → tarrylaw03_DiskCrashes.l21 k rec_l17 i11794 i8762 r328 x11491 m q12344 q12345 (i12346 : Int) = tarrylaw03_DiskCrashes.r21 k (rec_l17 (wrap64 (i11794 + 1))) i11794 i8762 r328 x11491 (r328.drop i12346) q12344 q12345 := by
  intro m
  induction m with
  | zero => intro i12346 q12344 q12345 h hi; omega
  | succ m ih =>
    intro i12346 q12344 q12345 h hi
    by_cases hc : i12346 < r328.length
    · have hw : wrap64 ((i12346 : Int) + 1) = ((i12346 + 1 : Nat) : Int) := by unfold wrap64; omega
      have hg : r328[(i12346 : Int).toNat]? = some r328[i12346] := by rw [Int.toNat_natCast]; exact List.getElem?_eq_getElem hc
      have ih2 := fun q12344 q12345 => ih (i12346 + 1) q12344 q12345 (by omega) (by omega)
      rw [List.drop_eq_getElem_cons hc, tarrylaw03_DiskCrashes.l21, tarrylaw03_DiskCrashes.r21, if_pos (by omega), if_pos (by omega), hg, Option.bind_some]
      simp only [hw, ih2]
    · rw [List.drop_of_length_le (by omega), tarrylaw03_DiskCrashes.l21, tarrylaw03_DiskCrashes.r21, if_neg (by omega)]
      try simp only [Int.natCast_zero]
-- tarrylaw03_DiskCrashes.l17: no index
-- tarrylaw03_DiskCrashes.l11: an inner loop of no such shape

end Go.Proofs.Ytlfkendmepdbkaa.PDiskCrashes
