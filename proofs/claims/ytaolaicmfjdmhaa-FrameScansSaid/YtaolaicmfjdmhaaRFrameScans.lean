/- Written by a program of this repo: what the program's functions do, each as a Lean function, shown of the loaded code; or a statement's row over that; no condition of its own. -/
import Derived.Test.YtaolaicmfjdmhaaPFrameScansx0
namespace Go.Proofs.Ytaolaicmfjdmhaa.PFrameScans
open Go Go.RowKit Go.Proofs.YtaolaicmfjdmhaaV
set_option linter.unusedVariables false
set_option linter.unusedSimpArgs false

-- pack_Number.l1: no index
-- pack_Number.l3: no index
-- check_Table.l9: no index
-- check_Table.l5: no index
-- check_On.l1: another shape
-- check_Bytes.l1: no index
-- pack_ReadNumber.l3: another shape
-- frame_Scan.l1: no index
-- tarryref01_ReadNumber.l214: no index
-- tarryref01_ReadNumber.l185: another shape
-- tarryref02_Off.l1: no index
-- tarryref02_On.l1: another shape
-- tarryref02_Bytes.l1: no index
-- tarryref04_Scan.l1: no index
-- tarryref01_Number.l1: no index
-- tarryref01_Number.l3: no index
def tarryref04_Whole.r1 (k : Nat) (l0 : List ByteArray) : List ByteArray → ByteArray → Option (ByteArray)
  | [], s19913 => (some s19913)
  | x19929 :: xsi19914, s19913 => ((tarryref04_Frame.f k x19929).bind fun t19932 => (if s19913.size + t19932.size ≤ 9223372036854775807 then (tarryref04_Whole.r1 k l0 xsi19914 (s19913 ++ t19932)) else none))
set_option maxHeartbeats 1000000 in
theorem tarryref04_Whole.r1_eq (k : Nat) (l0 : List ByteArray)  (hs : l0.length < 4611686018427387904) : ∀ (m i19914 : Nat) (s19913 : ByteArray), l0.length < m + i19914 → i19914 ≤ l0.length → tarryref04_Whole.l1 k l0 m s19913 (i19914 : Int) = tarryref04_Whole.r1 k l0 (l0.drop i19914) s19913 := by
  intro m
  induction m with
  | zero => intro i19914 s19913 h hi; omega
  | succ m ih =>
    intro i19914 s19913 h hi
    by_cases hc : i19914 < l0.length
    · have hw : wrap64 ((i19914 : Int) + 1) = ((i19914 + 1 : Nat) : Int) := by unfold wrap64; omega
      have hg : l0[(i19914 : Int).toNat]? = some l0[i19914] := by rw [Int.toNat_natCast]; exact List.getElem?_eq_getElem hc
      have ih2 := fun s19913 => ih (i19914 + 1) s19913 (by omega) (by omega)
      rw [List.drop_eq_getElem_cons hc, tarryref04_Whole.l1, tarryref04_Whole.r1, if_pos (by omega), if_pos (by omega), hg, Option.bind_some]
      simp only [hw, ih2]
    · rw [List.drop_of_length_le (by omega), tarryref04_Whole.l1, tarryref04_Whole.r1, if_neg (by omega)]
def tarryref01_Same.r1 (k : Nat) (l0 : List ByteArray) (l1 : List ByteArray) : List ByteArray → Nat → Option (Bool)
  | [], i19996 => (some true)
  | x20019 :: xsi19996, i19996 => ((l1[(i19996 : Int).toNat]?).bind fun x20020 => (if (x20019 == x20020) = true then (tarryref01_Same.r1 k l0 l1 xsi19996 (i19996 + 1)) else (some false)))
set_option maxHeartbeats 1000000 in
theorem tarryref01_Same.r1_eq (k : Nat) (l0 : List ByteArray) (l1 : List ByteArray)  (hs : l0.length < 4611686018427387904) : ∀ (m i19996 : Nat), l0.length < m + i19996 → i19996 ≤ l0.length → tarryref01_Same.l1 k l0 l1 m (i19996 : Int) = tarryref01_Same.r1 k l0 l1 (l0.drop i19996) i19996 := by
  intro m
  induction m with
  | zero => intro i19996 h hi; omega
  | succ m ih =>
    intro i19996 h hi
    by_cases hc : i19996 < l0.length
    · have hw : wrap64 ((i19996 : Int) + 1) = ((i19996 + 1 : Nat) : Int) := by unfold wrap64; omega
      have hg : l0[(i19996 : Int).toNat]? = some l0[i19996] := by rw [Int.toNat_natCast]; exact List.getElem?_eq_getElem hc
      have ih2 := ih (i19996 + 1) (by omega) (by omega)
      rw [List.drop_eq_getElem_cons hc, tarryref01_Same.l1, tarryref01_Same.r1, if_pos (by omega), if_pos (by omega), hg, Option.bind_some]
      simp only [hw, ih2]
    · rw [List.drop_of_length_le (by omega), tarryref01_Same.l1, tarryref01_Same.r1, if_neg (by omega)]

end Go.Proofs.Ytaolaicmfjdmhaa.PFrameScans
