/- Written by a program of this repo: what the program's functions do, each as a Lean function, shown of the loaded code; or a statement's row over that; no condition of its own. -/
import Derived.Test.YtaolaicmfjdmhaaPFrameHurtx0
namespace Go.Proofs.Ytaolaicmfjdmhaa.PFrameHurt
open Go Go.RowKit Go.Proofs.YtaolaicmfjdmhaaV
set_option linter.unusedVariables false
set_option linter.unusedSimpArgs false

def tarrylaw04_few.r1 (k : Nat) (l0 : List ByteArray) : List ByteArray → (List ByteArray) → Option (List ByteArray)
  | [], l74 => (some l74)
  | x95 :: xsi76, l74 => (if 0 ≤ mn (x95.size : Int) 100 then (if (mn (x95.size : Int) 100) ≤ (x95.size : Int) then (if (l74.length + ([x95.extract 0 ((mn (x95.size : Int) 100).toNat)] : List ByteArray).length) * 16 ≤ 140737488355328 then (tarrylaw04_few.r1 k l0 xsi76 (l74 ++ ([x95.extract 0 ((mn (x95.size : Int) 100).toNat)] : List ByteArray))) else none) else none) else none)
set_option maxHeartbeats 1000000 in
theorem tarrylaw04_few.r1_eq (k : Nat) (l0 : List ByteArray)  (hs : ((l0.take ((mn (l0.length : Int) 8).toNat)).drop 0).length < 4611686018427387904) : ∀ (m i76 : Nat) (l74 : List ByteArray), ((l0.take ((mn (l0.length : Int) 8).toNat)).drop 0).length < m + i76 → i76 ≤ ((l0.take ((mn (l0.length : Int) 8).toNat)).drop 0).length → tarrylaw04_few.l1 k l0 m l74 (i76 : Int) = tarrylaw04_few.r1 k l0 (((l0.take ((mn (l0.length : Int) 8).toNat)).drop 0).drop i76) l74 := by
  intro m
  induction m with
  | zero => intro i76 l74 h hi; omega
  | succ m ih =>
    intro i76 l74 h hi
    by_cases hc : i76 < ((l0.take ((mn (l0.length : Int) 8).toNat)).drop 0).length
    · have hw : wrap64 ((i76 : Int) + 1) = ((i76 + 1 : Nat) : Int) := by unfold wrap64; omega
      have hg : ((l0.take ((mn (l0.length : Int) 8).toNat)).drop 0)[(i76 : Int).toNat]? = some ((l0.take ((mn (l0.length : Int) 8).toNat)).drop 0)[i76] := by rw [Int.toNat_natCast]; exact List.getElem?_eq_getElem hc
      have ih2 := fun l74 => ih (i76 + 1) l74 (by omega) (by omega)
      rw [List.drop_eq_getElem_cons hc, tarrylaw04_few.l1, tarrylaw04_few.r1, if_pos (by omega), if_pos (by omega), hg, Option.bind_some]
      simp only [hw, ih2]
    · rw [List.drop_of_length_le (by omega), tarrylaw04_few.l1, tarrylaw04_few.r1, if_neg (by omega)]
-- pack_Number.l1: no index
-- pack_Number.l3: no index
-- check_Table.l9: no index
-- check_Table.l5: no index
-- check_On.l1: another shape
-- check_Bytes.l1: no index
-- pack_ReadNumber.l3: another shape
-- frame_Scan.l1: no index
def tarryref01_Same.r1 (k : Nat) (l0 : List ByteArray) (l1 : List ByteArray) : List ByteArray → Nat → Option (Bool)
  | [], i3574 => (some true)
  | x3597 :: xsi3574, i3574 => ((l1[(i3574 : Int).toNat]?).bind fun x3598 => (if (x3597 == x3598) = true then (tarryref01_Same.r1 k l0 l1 xsi3574 (i3574 + 1)) else (some false)))
set_option maxHeartbeats 1000000 in
theorem tarryref01_Same.r1_eq (k : Nat) (l0 : List ByteArray) (l1 : List ByteArray)  (hs : l0.length < 4611686018427387904) : ∀ (m i3574 : Nat), l0.length < m + i3574 → i3574 ≤ l0.length → tarryref01_Same.l1 k l0 l1 m (i3574 : Int) = tarryref01_Same.r1 k l0 l1 (l0.drop i3574) i3574 := by
  intro m
  induction m with
  | zero => intro i3574 h hi; omega
  | succ m ih =>
    intro i3574 h hi
    by_cases hc : i3574 < l0.length
    · have hw : wrap64 ((i3574 : Int) + 1) = ((i3574 + 1 : Nat) : Int) := by unfold wrap64; omega
      have hg : l0[(i3574 : Int).toNat]? = some l0[i3574] := by rw [Int.toNat_natCast]; exact List.getElem?_eq_getElem hc
      have ih2 := ih (i3574 + 1) (by omega) (by omega)
      rw [List.drop_eq_getElem_cons hc, tarryref01_Same.l1, tarryref01_Same.r1, if_pos (by omega), if_pos (by omega), hg, Option.bind_some]
      simp only [hw, ih2]
    · rw [List.drop_of_length_le (by omega), tarryref01_Same.l1, tarryref01_Same.r1, if_neg (by omega)]
-- tarrylaw04_FrameHurt.l38: no index
def tarrylaw04_FrameHurt.r33 (k : Nat) (a1 : Int) (a2 : Int) (a3 : Int) (r105 : List ByteArray) : List ByteArray → Nat → ByteArray → Int → Option (Bool)
  | [], i6474, s6472, i6473 => (tarrylaw04_FrameHurt.j32 k a1 a2 a3 r105 s6472 i6473)
  | x6533 :: xsi6474, i6474, s6472, i6473 => ((frame_Frame.f k x6533).bind fun ⟨t6536, t6537⟩ => (if t6537 = 0 then (if (i6474 : Int) = ((wrap64 ((a1.tmod (r105.length : Int)) + (r105.length : Int))).tmod (r105.length : Int)) then (if s6472.size + t6536.size ≤ 9223372036854775807 then (tarrylaw04_FrameHurt.r33 k a1 a2 a3 r105 xsi6474 (i6474 + 1) (s6472 ++ t6536) (wrap64 ((wrap64 ((wrap64 ((s6472.size : Int) + (t6536.size : Int))) - 4)) - (x6533.size : Int)))) else none) else (if s6472.size + t6536.size ≤ 9223372036854775807 then (tarrylaw04_FrameHurt.r33 k a1 a2 a3 r105 xsi6474 (i6474 + 1) (s6472 ++ t6536) i6473) else none)) else none))
set_option maxHeartbeats 1000000 in
theorem tarrylaw04_FrameHurt.r33_eq (k : Nat) (a1 : Int) (a2 : Int) (a3 : Int) (r105 : List ByteArray)  (hs : r105.length < 4611686018427387904) : ∀ (m i6474 : Nat) (s6472 : ByteArray) (i6473 : Int), r105.length < m + i6474 → i6474 ≤ r105.length → tarrylaw04_FrameHurt.l33 k a1 a2 a3 r105 m s6472 i6473 (i6474 : Int) = tarrylaw04_FrameHurt.r33 k a1 a2 a3 r105 (r105.drop i6474) i6474 s6472 i6473 := by
  intro m
  induction m with
  | zero => intro i6474 s6472 i6473 h hi; omega
  | succ m ih =>
    intro i6474 s6472 i6473 h hi
    by_cases hc : i6474 < r105.length
    · have hw : wrap64 ((i6474 : Int) + 1) = ((i6474 + 1 : Nat) : Int) := by unfold wrap64; omega
      have hg : r105[(i6474 : Int).toNat]? = some r105[i6474] := by rw [Int.toNat_natCast]; exact List.getElem?_eq_getElem hc
      have ih2 := fun s6472 i6473 => ih (i6474 + 1) s6472 i6473 (by omega) (by omega)
      rw [List.drop_eq_getElem_cons hc, tarrylaw04_FrameHurt.l33, tarrylaw04_FrameHurt.r33, if_pos (by omega), if_pos (by omega), hg, Option.bind_some]
      simp only [hw, ih2]
    · rw [List.drop_of_length_le (by omega), tarrylaw04_FrameHurt.l33, tarrylaw04_FrameHurt.r33, if_neg (by omega)]

end Go.Proofs.Ytaolaicmfjdmhaa.PFrameHurt
