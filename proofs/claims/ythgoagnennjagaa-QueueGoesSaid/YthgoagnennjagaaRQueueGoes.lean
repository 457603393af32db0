/- Written by a program of this repo: what the program's functions do, each as a Lean function, shown of the loaded code; or a statement's row over that; no condition of its own. -/
import Derived.Test.YthgoagnennjagaaPQueueGoesx0
namespace Go.Proofs.Ythgoagnennjagaa.PQueueGoes
open Go Go.RowKit Go.Proofs.YthgoagnennjagaaV
set_option linter.unusedVariables false
set_option linter.unusedSimpArgs false

def cmp_Or_int.r1 (k : Nat) (l0 : List Int) : List Int → Option (Int)
  | [] => (some 0)
  | x146 :: xsi120 => (if x146 = 0 then (cmp_Or_int.r1 k l0 xsi120) else (some x146))
set_option maxHeartbeats 1000000 in
theorem cmp_Or_int.r1_eq (k : Nat) (l0 : List Int)  (hs : l0.length < 4611686018427387904) : ∀ (m i120 : Nat), l0.length < m + i120 → i120 ≤ l0.length → cmp_Or_int.l1 k l0 m (i120 : Int) = cmp_Or_int.r1 k l0 (l0.drop i120) := by
  intro m
  induction m with
  | zero => intro i120 h hi; omega
  | succ m ih =>
    intro i120 h hi
    by_cases hc : i120 < l0.length
    · have hw : wrap64 ((i120 : Int) + 1) = ((i120 + 1 : Nat) : Int) := by unfold wrap64; omega
      have hg : l0[(i120 : Int).toNat]? = some l0[i120] := by rw [Int.toNat_natCast]; exact List.getElem?_eq_getElem hc
      have ih2 := ih (i120 + 1) (by omega) (by omega)
      rw [List.drop_eq_getElem_cons hc, cmp_Or_int.l1, cmp_Or_int.r1, if_pos (by omega), if_pos (by omega), hg, Option.bind_some]
      simp only [hw, ih2]
    · rw [List.drop_of_length_le (by omega), cmp_Or_int.l1, cmp_Or_int.r1, if_neg (by omega)]
def slices_IndexFunc_api_Wait_api_Wait.r1 (k : Nat) (l0 : List S23) : List S23 → Nat → Option (Int)
  | [], i341 => (some (-1))
  | x370 :: xsi341, i341 => ((queue_all_1.f x370.f0 x370.f1 x370.f2).bind fun t373 => (if t373 = true then (some (i341 : Int)) else (slices_IndexFunc_api_Wait_api_Wait.r1 k l0 xsi341 (i341 + 1))))
set_option maxHeartbeats 1000000 in
theorem slices_IndexFunc_api_Wait_api_Wait.r1_eq (k : Nat) (l0 : List S23)  (hs : l0.length < 4611686018427387904) : ∀ (m i341 : Nat), l0.length < m + i341 → i341 ≤ l0.length → slices_IndexFunc_api_Wait_api_Wait.l1 k l0 m (i341 : Int) = slices_IndexFunc_api_Wait_api_Wait.r1 k l0 (l0.drop i341) i341 := by
  intro m
  induction m with
  | zero => intro i341 h hi; omega
  | succ m ih =>
    intro i341 h hi
    by_cases hc : i341 < l0.length
    · have hw : wrap64 ((i341 : Int) + 1) = ((i341 + 1 : Nat) : Int) := by unfold wrap64; omega
      have hg : l0[(i341 : Int).toNat]? = some l0[i341] := by rw [Int.toNat_natCast]; exact List.getElem?_eq_getElem hc
      have ih2 := ih (i341 + 1) (by omega) (by omega)
      rw [List.drop_eq_getElem_cons hc, slices_IndexFunc_api_Wait_api_Wait.l1, slices_IndexFunc_api_Wait_api_Wait.r1, if_pos (by omega), if_pos (by omega), hg, Option.bind_some]
      simp only [hw, ih2]
    · rw [List.drop_of_length_le (by omega), slices_IndexFunc_api_Wait_api_Wait.l1, slices_IndexFunc_api_Wait_api_Wait.r1, if_neg (by omega)]
def queue_Right.r1 (k : Nat) (l0 : List S23) : List S23 → Nat → Option (Bool)
  | [], i218 => ((queue_all.f k l0).bind fun t405 => (some t405))
  | x399 :: xsi218, i218 => (if 0 ≤ IntKind.i64.wrap ((wrap64 ((i218 : Int) - 1)).tdiv 2) then ((l0[(IntKind.i64.wrap ((wrap64 ((i218 : Int) - 1)).tdiv 2)).toNat]?).bind fun x401 => ((queue_Less.f k x399.f0 x399.f1 x399.f2 x401.f0 x401.f1 x401.f2).bind fun t402 => (if t402 = true then (some false) else (queue_Right.r1 k l0 xsi218 (i218 + 1))))) else none)
set_option maxHeartbeats 1000000 in
theorem queue_Right.r1_eq (k : Nat) (l0 : List S23)  (hs : l0.length < 4611686018427387904) : ∀ (m i218 : Nat), l0.length < m + i218 → i218 ≤ l0.length → queue_Right.l1 k l0 m (i218 : Int) = queue_Right.r1 k l0 (l0.drop i218) i218 := by
  intro m
  induction m with
  | zero => intro i218 h hi; omega
  | succ m ih =>
    intro i218 h hi
    by_cases hc : i218 < l0.length
    · have hw : wrap64 ((i218 : Int) + 1) = ((i218 + 1 : Nat) : Int) := by unfold wrap64; omega
      have hg : l0[(i218 : Int).toNat]? = some l0[i218] := by rw [Int.toNat_natCast]; exact List.getElem?_eq_getElem hc
      have ih2 := ih (i218 + 1) (by omega) (by omega)
      rw [List.drop_eq_getElem_cons hc, queue_Right.l1, queue_Right.r1, if_pos (by omega), if_pos (by omega), hg, Option.bind_some]
      simp only [hw, ih2]
    · rw [List.drop_of_length_le (by omega), queue_Right.l1, queue_Right.r1, if_neg (by omega)]
-- queue_Push.l3: no index
-- queue_Pop.l130: no index
-- queue_Make.l53: no index
-- queue_Make.l46: no index
def tarryref06_All.r1 (k : Nat) (l0 : List S23) : List S23 → Option (Bool)
  | [] => (some (decide ((l0.length : Int) ≤ 64)))
  | x112568 :: xsi112526 => ((tarryref06_May.f x112568.f0 x112568.f1 x112568.f2).bind fun t112575 => (if t112575 = true then (tarryref06_All.r1 k l0 xsi112526) else (some false)))
set_option maxHeartbeats 1000000 in
theorem tarryref06_All.r1_eq (k : Nat) (l0 : List S23)  (hs : l0.length < 4611686018427387904) : ∀ (m i112526 : Nat), l0.length < m + i112526 → i112526 ≤ l0.length → tarryref06_All.l1 k l0 m (i112526 : Int) = tarryref06_All.r1 k l0 (l0.drop i112526) := by
  intro m
  induction m with
  | zero => intro i112526 h hi; omega
  | succ m ih =>
    intro i112526 h hi
    by_cases hc : i112526 < l0.length
    · have hw : wrap64 ((i112526 : Int) + 1) = ((i112526 + 1 : Nat) : Int) := by unfold wrap64; omega
      have hg : l0[(i112526 : Int).toNat]? = some l0[i112526] := by rw [Int.toNat_natCast]; exact List.getElem?_eq_getElem hc
      have ih2 := ih (i112526 + 1) (by omega) (by omega)
      rw [List.drop_eq_getElem_cons hc, tarryref06_All.l1, tarryref06_All.r1, if_pos (by omega), if_pos (by omega), hg, Option.bind_some]
      simp only [hw, ih2]
    · rw [List.drop_of_length_le (by omega), tarryref06_All.l1, tarryref06_All.r1, if_neg (by omega)]
-- tarryref06_Heap.l1: another shape
def tarryref06_Sorted.r9 (k : Nat) (rec_l5 : (List S23) → Option (List S23)) (i113972 : Int) (l113971 : List S23) (x114465 : S23) : List S23 → Nat → Option (List S23)
  | [], i114522 => (if 0 ≤ (i114522 : Int) then (if (i114522 : Int) ≤ (l113971.length : Int) then (if (([] : List S23).length + ((l113971.take (i114522 : Int).toNat).drop 0).length) * 24 ≤ 140737488355328 then (if ((([] : List S23) ++ ((l113971.take (i114522 : Int).toNat).drop 0)).length + ([x114465] : List S23).length) * 24 ≤ 140737488355328 then (if (((([] : List S23) ++ ((l113971.take (i114522 : Int).toNat).drop 0)) ++ ([x114465] : List S23)).length + ((l113971.take l113971.length).drop (i114522 : Int).toNat).length) * 24 ≤ 140737488355328 then (rec_l5 (((([] : List S23) ++ ((l113971.take (i114522 : Int).toNat).drop 0)) ++ ([x114465] : List S23)) ++ ((l113971.take l113971.length).drop (i114522 : Int).toNat))) else none) else none) else none) else none) else none)
  | x114584 :: xsi114522, i114522 => ((tarryref06_Less.f x114465.f0 x114465.f1 x114465.f2 x114584.f0 x114584.f1 x114584.f2).bind fun t114585 => (if t114585 = true then (if (i114522 : Int) ≤ (l113971.length : Int) then (if (([] : List S23).length + ((l113971.take (i114522 : Int).toNat).drop 0).length) * 24 ≤ 140737488355328 then (if ((([] : List S23) ++ ((l113971.take (i114522 : Int).toNat).drop 0)).length + ([x114465] : List S23).length) * 24 ≤ 140737488355328 then (if (((([] : List S23) ++ ((l113971.take (i114522 : Int).toNat).drop 0)) ++ ([x114465] : List S23)).length + ((l113971.take l113971.length).drop (i114522 : Int).toNat).length) * 24 ≤ 140737488355328 then (rec_l5 (((([] : List S23) ++ ((l113971.take (i114522 : Int).toNat).drop 0)) ++ ([x114465] : List S23)) ++ ((l113971.take l113971.length).drop (i114522 : Int).toNat))) else none) else none) else none) else none) else (tarryref06_Sorted.r9 k rec_l5 i113972 l113971 x114465 xsi114522 (i114522 + 1))))
set_option maxHeartbeats 1000000 in
theorem tarryref06_Sorted.r9_eq (k : Nat) (rec_l5 : (List S23) → Int → Option (List S23)) (i113972 : Int) (l113971 : List S23) (x114465 : S23)  (hs : l113971.length < 4611686018427387904) : ∀ (m i114522 : Nat), l113971.length < m + i114522 → i114522 ≤ l113971.length → tarryref06_Sorted.l9 k rec_l5 i113972 l113971 x114465 m (i114522 : Int) = tarryref06_Sorted.r9 k (fun z0 => rec_l5 z0 (wrap64 (i113972 + 1))) i113972 l113971 x114465 (l113971.drop i114522) i114522 := by
  intro m
  induction m with
  | zero => intro i114522 h hi; omega
  | succ m ih =>
    intro i114522 h hi
    by_cases hc : i114522 < l113971.length
    · have hw : wrap64 ((i114522 : Int) + 1) = ((i114522 + 1 : Nat) : Int) := by unfold wrap64; omega
      have hg : l113971[(i114522 : Int).toNat]? = some l113971[i114522] := by rw [Int.toNat_natCast]; exact List.getElem?_eq_getElem hc
      have ih2 := ih (i114522 + 1) (by omega) (by omega)
      rw [List.drop_eq_getElem_cons hc, tarryref06_Sorted.l9, tarryref06_Sorted.r9, if_pos (by omega), if_pos (by omega), hg, Option.bind_some]
      simp only [hw, ih2]
    · rw [List.drop_of_length_le (by omega), tarryref06_Sorted.l9, tarryref06_Sorted.r9, if_neg (by omega)]
      try simp only [Int.natCast_zero]
-- tarryref06_Sorted.l5: an inner loop over l113971
def tarryref06_Same.r1 (k : Nat) (l0 : List S23) (l1 : List S23) : List S23 → Nat → Option (Bool)
  | [], i114718 => (some true)
  | x114741 :: xsi114718, i114718 => ((l1[(i114718 : Int).toNat]?).bind fun x114742 => (if (((x114741.f0 == x114742.f0) && ((x114741.f1 == x114742.f1) && (x114741.f2 == x114742.f2)))) = true then (tarryref06_Same.r1 k l0 l1 xsi114718 (i114718 + 1)) else (some false)))
set_option maxHeartbeats 1000000 in
theorem tarryref06_Same.r1_eq (k : Nat) (l0 : List S23) (l1 : List S23)  (hs : l0.length < 4611686018427387904) : ∀ (m i114718 : Nat), l0.length < m + i114718 → i114718 ≤ l0.length → tarryref06_Same.l1 k l0 l1 m (i114718 : Int) = tarryref06_Same.r1 k l0 l1 (l0.drop i114718) i114718 := by
  intro m
  induction m with
  | zero => intro i114718 h hi; omega
  | succ m ih =>
    intro i114718 h hi
    by_cases hc : i114718 < l0.length
    · have hw : wrap64 ((i114718 : Int) + 1) = ((i114718 + 1 : Nat) : Int) := by unfold wrap64; omega
      have hg : l0[(i114718 : Int).toNat]? = some l0[i114718] := by rw [Int.toNat_natCast]; exact List.getElem?_eq_getElem hc
      have ih2 := ih (i114718 + 1) (by omega) (by omega)
      rw [List.drop_eq_getElem_cons hc, tarryref06_Same.l1, tarryref06_Same.r1, if_pos (by omega), if_pos (by omega), hg, Option.bind_some]
      simp only [hw, ih2]
    · rw [List.drop_of_length_le (by omega), tarryref06_Same.l1, tarryref06_Same.r1, if_neg (by omega)]

end Go.Proofs.Ythgoagnennjagaa.PQueueGoes
