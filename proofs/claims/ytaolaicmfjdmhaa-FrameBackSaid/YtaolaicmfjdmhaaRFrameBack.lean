/- Written by a program of this repo: what the program's functions do, each as a Lean function, shown of the loaded code; or a statement's row over that; no condition of its own. -/
import Derived.Test.YtaolaicmfjdmhaaPFrameBackx0
namespace Go.Proofs.Ytaolaicmfjdmhaa.PFrameBack
open Go Go.RowKit Go.Proofs.YtaolaicmfjdmhaaV
set_option linter.unusedVariables false
set_option linter.unusedSimpArgs false

def tarrylaw04_few.r1 (k : Nat) (l0 : List ByteArray) : List ByteArray → (List ByteArray) → Option (List ByteArray)
  | [], l74 => (some l74)
  | x95 :: xsi76, l74 => (if 0 ≤ mn (x95.size : Int) 100 then (if (mn (x95.size : Int) 100) ≤ (x95.size : Int) then (if (l74.length + ([x95.extract 0 ((mn (x95.size : Int) 100).toNat)] : List ByteArray).length) * 16 ≤ 140737488355328 then (tarrylaw04_few.r1 k l0 xsi76 (l74 ++ ([x95.extract 0 ((mn (x95.size : Int) 100).toNat)] : List ByteArray))) else none) else none) else none)
set_option maxHeartbeats 1000000 in
theorem tarrylaw04_few.r1_eq (k : Nat) (l0 : List ByteArray)  (hs : ((l0.take ((mn (l0.length : Int) 8).toNat)).drop 0).length < 4611686018427387904) : ∀ (m i76 : Nat) (l74 : List ByteArray), ((l0.take ((mn (l0.length : Int) 8).toNat)).drop 0).length < m + i76 → i76 ≤ ((l0.take ((mn (l0.length : Int) 8).toNat)).drop 0).length → tarrylaw04_few.l1 k l0 m l74 (i76 : Int) = tarrylaw04_few.r1 k l0 (((l0.take ((mn (l0.length : Int) 8).toNat)).drop 0).drop i76) l74 := by
  intro m
  induction m with
  | zero => intro i76 l74 h hi; omega
  | succ m ih =>
    intro i76 l74 h hi
    by_cases hc : i76 < ((l0.take ((mn (l0.length : Int) 8).toNat)).drop 0).length
    · have hw : wrap64 ((i76 : Int) + 1) = ((i76 + 1 : Nat) : Int) := by unfold wrap64; omega
      have hg : ((l0.take ((mn (l0.length : Int) 8).toNat)).drop 0)[(i76 : Int).toNat]? = some ((l0.take ((mn (l0.length : Int) 8).toNat)).drop 0)[i76] := by rw [Int.toNat_natCast]; exact List.getElem?_eq_getElem hc
      have ih2 := fun l74 => ih (i76 + 1) l74 (by omega) (by omega)
      rw [List.drop_eq_getElem_cons hc, tarrylaw04_few.l1, tarrylaw04_few.r1, if_pos (by omega), if_pos (by omega), hg, Option.bind_some]
      simp only [hw, ih2]
    · rw [List.drop_of_length_le (by omega), tarrylaw04_few.l1, tarrylaw04_few.r1, if_neg (by omega)]
-- pack_Number.l1: no index
-- pack_Number.l3: no index
-- check_Table.l9: no index
-- check_Table.l5: no index
-- check_On.l1: another shape
-- check_Bytes.l1: no index
-- pack_ReadNumber.l3: another shape
-- frame_Scan.l1: no index
def tarryref01_Same.r1 (k : Nat) (l0 : List ByteArray) (l1 : List ByteArray) : List ByteArray → Nat → Option (Bool)
  | [], i3305 => (some true)
  | x3328 :: xsi3305, i3305 => ((l1[(i3305 : Int).toNat]?).bind fun x3329 => (if (x3328 == x3329) = true then (tarryref01_Same.r1 k l0 l1 xsi3305 (i3305 + 1)) else (some false)))
set_option maxHeartbeats 1000000 in
theorem tarryref01_Same.r1_eq (k : Nat) (l0 : List ByteArray) (l1 : List ByteArray)  (hs : l0.length < 4611686018427387904) : ∀ (m i3305 : Nat), l0.length < m + i3305 → i3305 ≤ l0.length → tarryref01_Same.l1 k l0 l1 m (i3305 : Int) = tarryref01_Same.r1 k l0 l1 (l0.drop i3305) i3305 := by
  intro m
  induction m with
  | zero => intro i3305 h hi; omega
  | succ m ih =>
    intro i3305 h hi
    by_cases hc : i3305 < l0.length
    · have hw : wrap64 ((i3305 : Int) + 1) = ((i3305 + 1 : Nat) : Int) := by unfold wrap64; omega
      have hg : l0[(i3305 : Int).toNat]? = some l0[i3305] := by rw [Int.toNat_natCast]; exact List.getElem?_eq_getElem hc
      have ih2 := ih (i3305 + 1) (by omega) (by omega)
      rw [List.drop_eq_getElem_cons hc, tarryref01_Same.l1, tarryref01_Same.r1, if_pos (by omega), if_pos (by omega), hg, Option.bind_some]
      simp only [hw, ih2]
    · rw [List.drop_of_length_le (by omega), tarryref01_Same.l1, tarryref01_Same.r1, if_neg (by omega)]
def tarrylaw04_FrameBack.r3 (k : Nat) (a1 : Int) (a2 : ByteArray) (r105 : List ByteArray) : List ByteArray → ByteArray → Option (Bool)
  | [], s3602 => (tarrylaw04_FrameBack.j2 k a1 a2 r105 s3602)
  | x3647 :: xsi3603, s3602 => ((frame_Frame.f k x3647).bind fun ⟨t3650, t3651⟩ => (if t3651 = 0 then (if s3602.size + t3650.size ≤ 9223372036854775807 then (tarrylaw04_FrameBack.r3 k a1 a2 r105 xsi3603 (s3602 ++ t3650)) else none) else none))
set_option maxHeartbeats 1000000 in
theorem tarrylaw04_FrameBack.r3_eq (k : Nat) (a1 : Int) (a2 : ByteArray) (r105 : List ByteArray)  (hs : r105.length < 4611686018427387904) : ∀ (m i3603 : Nat) (s3602 : ByteArray), r105.length < m + i3603 → i3603 ≤ r105.length → tarrylaw04_FrameBack.l3 k a1 a2 r105 m s3602 (i3603 : Int) = tarrylaw04_FrameBack.r3 k a1 a2 r105 (r105.drop i3603) s3602 := by
  intro m
  induction m with
  | zero => intro i3603 s3602 h hi; omega
  | succ m ih =>
    intro i3603 s3602 h hi
    by_cases hc : i3603 < r105.length
    · have hw : wrap64 ((i3603 : Int) + 1) = ((i3603 + 1 : Nat) : Int) := by unfold wrap64; omega
      have hg : r105[(i3603 : Int).toNat]? = some r105[i3603] := by rw [Int.toNat_natCast]; exact List.getElem?_eq_getElem hc
      have ih2 := fun s3602 => ih (i3603 + 1) s3602 (by omega) (by omega)
      rw [List.drop_eq_getElem_cons hc, tarrylaw04_FrameBack.l3, tarrylaw04_FrameBack.r3, if_pos (by omega), if_pos (by omega), hg, Option.bind_some]
      simp only [hw, ih2]
    · rw [List.drop_of_length_le (by omega), tarrylaw04_FrameBack.l3, tarrylaw04_FrameBack.r3, if_neg (by omega)]

end Go.Proofs.Ytaolaicmfjdmhaa.PFrameBack
