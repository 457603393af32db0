/- Written by a program of this repo: what the program's functions do, each as a Lean function, shown of the loaded code; or a statement's row over that; no condition of its own. -/
import Derived.Test.YtacenfolbmdpoaaPPackRowsx0
namespace Go.Proofs.Ytacenfolbmdpoaa.PPackRows
open Go Go.RowKit Go.Proofs.YtacenfolbmdpoaaV
set_option linter.unusedVariables false
set_option linter.unusedSimpArgs false

def tarrylaw01_few.r1 (k : Nat) (l0 : List ByteArray) : List ByteArray → (List ByteArray) → Option (List ByteArray)
  | [], l74 => (some l74)
  | x95 :: xsi76, l74 => (if 0 ≤ mn (x95.size : Int) 4100 then (if (mn (x95.size : Int) 4100) ≤ (x95.size : Int) then (if (l74.length + ([x95.extract 0 ((mn (x95.size : Int) 4100).toNat)] : List ByteArray).length) * 16 ≤ 140737488355328 then (tarrylaw01_few.r1 k l0 xsi76 (l74 ++ ([x95.extract 0 ((mn (x95.size : Int) 4100).toNat)] : List ByteArray))) else none) else none) else none)
set_option maxHeartbeats 1000000 in
theorem tarrylaw01_few.r1_eq (k : Nat) (l0 : List ByteArray)  (hs : ((l0.take ((mn (l0.length : Int) 258).toNat)).drop 0).length < 4611686018427387904) : ∀ (m i76 : Nat) (l74 : List ByteArray), ((l0.take ((mn (l0.length : Int) 258).toNat)).drop 0).length < m + i76 → i76 ≤ ((l0.take ((mn (l0.length : Int) 258).toNat)).drop 0).length → tarrylaw01_few.l1 k l0 m l74 (i76 : Int) = tarrylaw01_few.r1 k l0 (((l0.take ((mn (l0.length : Int) 258).toNat)).drop 0).drop i76) l74 := by
  intro m
  induction m with
  | zero => intro i76 l74 h hi; omega
  | succ m ih =>
    intro i76 l74 h hi
    by_cases hc : i76 < ((l0.take ((mn (l0.length : Int) 258).toNat)).drop 0).length
    · have hw : wrap64 ((i76 : Int) + 1) = ((i76 + 1 : Nat) : Int) := by unfold wrap64; omega
      have hg : ((l0.take ((mn (l0.length : Int) 258).toNat)).drop 0)[(i76 : Int).toNat]? = some ((l0.take ((mn (l0.length : Int) 258).toNat)).drop 0)[i76] := by rw [Int.toNat_natCast]; exact List.getElem?_eq_getElem hc
      have ih2 := fun l74 => ih (i76 + 1) l74 (by omega) (by omega)
      rw [List.drop_eq_getElem_cons hc, tarrylaw01_few.l1, tarrylaw01_few.r1, if_pos (by omega), if_pos (by omega), hg, Option.bind_some]
      simp only [hw, ih2]
    · rw [List.drop_of_length_le (by omega), tarrylaw01_few.l1, tarrylaw01_few.r1, if_neg (by omega)]
-- pack_Number.l1: no index
-- pack_Number.l3: no index
-- pack_ReadNumber.l3: another shape
-- pack_ReadRow.l1: no index
-- tarryref01_ReadNumber.l214: no index
-- tarryref01_ReadNumber.l185: another shape
-- tarryref01_ReadRow.l1: no index
def tarryref01_Same.r1 (k : Nat) (l0 : List ByteArray) (l1 : List ByteArray) : List ByteArray → Nat → Option (Bool)
  | [], i18887 => (some true)
  | x18910 :: xsi18887, i18887 => ((l1[(i18887 : Int).toNat]?).bind fun x18911 => (if (x18910 == x18911) = true then (tarryref01_Same.r1 k l0 l1 xsi18887 (i18887 + 1)) else (some false)))
set_option maxHeartbeats 1000000 in
theorem tarryref01_Same.r1_eq (k : Nat) (l0 : List ByteArray) (l1 : List ByteArray)  (hs : l0.length < 4611686018427387904) : ∀ (m i18887 : Nat), l0.length < m + i18887 → i18887 ≤ l0.length → tarryref01_Same.l1 k l0 l1 m (i18887 : Int) = tarryref01_Same.r1 k l0 l1 (l0.drop i18887) i18887 := by
  intro m
  induction m with
  | zero => intro i18887 h hi; omega
  | succ m ih =>
    intro i18887 h hi
    by_cases hc : i18887 < l0.length
    · have hw : wrap64 ((i18887 : Int) + 1) = ((i18887 + 1 : Nat) : Int) := by unfold wrap64; omega
      have hg : l0[(i18887 : Int).toNat]? = some l0[i18887] := by rw [Int.toNat_natCast]; exact List.getElem?_eq_getElem hc
      have ih2 := ih (i18887 + 1) (by omega) (by omega)
      rw [List.drop_eq_getElem_cons hc, tarryref01_Same.l1, tarryref01_Same.r1, if_pos (by omega), if_pos (by omega), hg, Option.bind_some]
      simp only [hw, ih2]
    · rw [List.drop_of_length_le (by omega), tarryref01_Same.l1, tarryref01_Same.r1, if_neg (by omega)]
def tarryref01_MayRow.r1 (k : Nat) (l0 : List ByteArray) : List ByteArray → Option (Bool)
  | [] => (some (decide ((l0.length : Int) ≤ 256)))
  | x19049 :: xsi19022 => (if (x19049.size : Int) > 4096 then (some false) else (tarryref01_MayRow.r1 k l0 xsi19022))
set_option maxHeartbeats 1000000 in
theorem tarryref01_MayRow.r1_eq (k : Nat) (l0 : List ByteArray)  (hs : l0.length < 4611686018427387904) : ∀ (m i19022 : Nat), l0.length < m + i19022 → i19022 ≤ l0.length → tarryref01_MayRow.l1 k l0 m (i19022 : Int) = tarryref01_MayRow.r1 k l0 (l0.drop i19022) := by
  intro m
  induction m with
  | zero => intro i19022 h hi; omega
  | succ m ih =>
    intro i19022 h hi
    by_cases hc : i19022 < l0.length
    · have hw : wrap64 ((i19022 : Int) + 1) = ((i19022 + 1 : Nat) : Int) := by unfold wrap64; omega
      have hg : l0[(i19022 : Int).toNat]? = some l0[i19022] := by rw [Int.toNat_natCast]; exact List.getElem?_eq_getElem hc
      have ih2 := ih (i19022 + 1) (by omega) (by omega)
      rw [List.drop_eq_getElem_cons hc, tarryref01_MayRow.l1, tarryref01_MayRow.r1, if_pos (by omega), if_pos (by omega), hg, Option.bind_some]
      simp only [hw, ih2]
    · rw [List.drop_of_length_le (by omega), tarryref01_MayRow.l1, tarryref01_MayRow.r1, if_neg (by omega)]
-- tarryref01_Number.l1: no index
-- tarryref01_Number.l3: no index
def tarryref01_Row.r1 (k : Nat) (l0 : List ByteArray) : List ByteArray → ByteArray → Option (ByteArray)
  | [], s19274 => (some s19274)
  | x19291 :: xsi19275, s19274 => ((tarryref01_Number.f k (x19291.size : Int)).bind fun t19294 => (if s19274.size + t19294.size ≤ 9223372036854775807 then (if (s19274 ++ t19294).size + x19291.size ≤ 9223372036854775807 then (tarryref01_Row.r1 k l0 xsi19275 ((s19274 ++ t19294) ++ x19291)) else none) else none))
set_option maxHeartbeats 1000000 in
theorem tarryref01_Row.r1_eq (k : Nat) (l0 : List ByteArray)  (hs : l0.length < 4611686018427387904) : ∀ (m i19275 : Nat) (s19274 : ByteArray), l0.length < m + i19275 → i19275 ≤ l0.length → tarryref01_Row.l1 k l0 m s19274 (i19275 : Int) = tarryref01_Row.r1 k l0 (l0.drop i19275) s19274 := by
  intro m
  induction m with
  | zero => intro i19275 s19274 h hi; omega
  | succ m ih =>
    intro i19275 s19274 h hi
    by_cases hc : i19275 < l0.length
    · have hw : wrap64 ((i19275 : Int) + 1) = ((i19275 + 1 : Nat) : Int) := by unfold wrap64; omega
      have hg : l0[(i19275 : Int).toNat]? = some l0[i19275] := by rw [Int.toNat_natCast]; exact List.getElem?_eq_getElem hc
      have ih2 := fun s19274 => ih (i19275 + 1) s19274 (by omega) (by omega)
      rw [List.drop_eq_getElem_cons hc, tarryref01_Row.l1, tarryref01_Row.r1, if_pos (by omega), if_pos (by omega), hg, Option.bind_some]
      simp only [hw, ih2]
    · rw [List.drop_of_length_le (by omega), tarryref01_Row.l1, tarryref01_Row.r1, if_neg (by omega)]

end Go.Proofs.Ytacenfolbmdpoaa.PPackRows
