/- Written by a program of this repo: what the program's functions do, each as a Lean function, shown of the loaded code; or a statement's row over that; no condition of its own. -/
import Derived.Test.YthgoagnennjagaaPQueueHeapsx0
namespace Go.Proofs.Ythgoagnennjagaa.PQueueHeaps
open Go Go.RowKit Go.Proofs.YthgoagnennjagaaV
set_option linter.unusedVariables false
set_option linter.unusedSimpArgs false

def slices_IndexFunc_api_Wait_api_Wait.r1 (k : Nat) (l0 : List S23) : List S23 → Nat → Option (Int)
  | [], i121 => (some (-1))
  | x150 :: xsi121, i121 => ((queue_all_1.f x150.f0 x150.f1 x150.f2).bind fun t153 => (if t153 = true then (some (i121 : Int)) else (slices_IndexFunc_api_Wait_api_Wait.r1 k l0 xsi121 (i121 + 1))))
set_option maxHeartbeats 1000000 in
theorem slices_IndexFunc_api_Wait_api_Wait.r1_eq (k : Nat) (l0 : List S23)  (hs : l0.length < 4611686018427387904) : ∀ (m i121 : Nat), l0.length < m + i121 → i121 ≤ l0.length → slices_IndexFunc_api_Wait_api_Wait.l1 k l0 m (i121 : Int) = slices_IndexFunc_api_Wait_api_Wait.r1 k l0 (l0.drop i121) i121 := by
  intro m
  induction m with
  | zero => intro i121 h hi; omega
  | succ m ih =>
    intro i121 h hi
    by_cases hc : i121 < l0.length
    · have hw : wrap64 ((i121 : Int) + 1) = ((i121 + 1 : Nat) : Int) := by unfold wrap64; omega
      have hg : l0[(i121 : Int).toNat]? = some l0[i121] := by rw [Int.toNat_natCast]; exact List.getElem?_eq_getElem hc
      have ih2 := ih (i121 + 1) (by omega) (by omega)
      rw [List.drop_eq_getElem_cons hc, slices_IndexFunc_api_Wait_api_Wait.l1, slices_IndexFunc_api_Wait_api_Wait.r1, if_pos (by omega), if_pos (by omega), hg, Option.bind_some]
      simp only [hw, ih2]
    · rw [List.drop_of_length_le (by omega), slices_IndexFunc_api_Wait_api_Wait.l1, slices_IndexFunc_api_Wait_api_Wait.r1, if_neg (by omega)]
def cmp_Or_int.r1 (k : Nat) (l0 : List Int) : List Int → Option (Int)
  | [] => (some 0)
  | x326 :: xsi300 => (if x326 = 0 then (cmp_Or_int.r1 k l0 xsi300) else (some x326))
set_option maxHeartbeats 1000000 in
theorem cmp_Or_int.r1_eq (k : Nat) (l0 : List Int)  (hs : l0.length < 4611686018427387904) : ∀ (m i300 : Nat), l0.length < m + i300 → i300 ≤ l0.length → cmp_Or_int.l1 k l0 m (i300 : Int) = cmp_Or_int.r1 k l0 (l0.drop i300) := by
  intro m
  induction m with
  | zero => intro i300 h hi; omega
  | succ m ih =>
    intro i300 h hi
    by_cases hc : i300 < l0.length
    · have hw : wrap64 ((i300 : Int) + 1) = ((i300 + 1 : Nat) : Int) := by unfold wrap64; omega
      have hg : l0[(i300 : Int).toNat]? = some l0[i300] := by rw [Int.toNat_natCast]; exact List.getElem?_eq_getElem hc
      have ih2 := ih (i300 + 1) (by omega) (by omega)
      rw [List.drop_eq_getElem_cons hc, cmp_Or_int.l1, cmp_Or_int.r1, if_pos (by omega), if_pos (by omega), hg, Option.bind_some]
      simp only [hw, ih2]
    · rw [List.drop_of_length_le (by omega), cmp_Or_int.l1, cmp_Or_int.r1, if_neg (by omega)]
-- queue_Make.l53: no index
-- queue_Make.l46: no index
-- queue_Sorted.l80: no index
-- queue_Sorted.l41: no index
def queue_Right.r1 (k : Nat) (l0 : List S23) : List S23 → Nat → Option (Bool)
  | [], i167859 => ((queue_all.f k l0).bind fun t167898 => (some t167898))
  | x167892 :: xsi167859, i167859 => (if 0 ≤ IntKind.i64.wrap ((wrap64 ((i167859 : Int) - 1)).tdiv 2) then ((l0[(IntKind.i64.wrap ((wrap64 ((i167859 : Int) - 1)).tdiv 2)).toNat]?).bind fun x167894 => ((queue_Less.f k x167892.f0 x167892.f1 x167892.f2 x167894.f0 x167894.f1 x167894.f2).bind fun t167895 => (if t167895 = true then (some false) else (queue_Right.r1 k l0 xsi167859 (i167859 + 1))))) else none)
set_option maxHeartbeats 1000000 in
theorem queue_Right.r1_eq (k : Nat) (l0 : List S23)  (hs : l0.length < 4611686018427387904) : ∀ (m i167859 : Nat), l0.length < m + i167859 → i167859 ≤ l0.length → queue_Right.l1 k l0 m (i167859 : Int) = queue_Right.r1 k l0 (l0.drop i167859) i167859 := by
  intro m
  induction m with
  | zero => intro i167859 h hi; omega
  | succ m ih =>
    intro i167859 h hi
    by_cases hc : i167859 < l0.length
    · have hw : wrap64 ((i167859 : Int) + 1) = ((i167859 + 1 : Nat) : Int) := by unfold wrap64; omega
      have hg : l0[(i167859 : Int).toNat]? = some l0[i167859] := by rw [Int.toNat_natCast]; exact List.getElem?_eq_getElem hc
      have ih2 := ih (i167859 + 1) (by omega) (by omega)
      rw [List.drop_eq_getElem_cons hc, queue_Right.l1, queue_Right.r1, if_pos (by omega), if_pos (by omega), hg, Option.bind_some]
      simp only [hw, ih2]
    · rw [List.drop_of_length_le (by omega), queue_Right.l1, queue_Right.r1, if_neg (by omega)]
def tarryref06_All.r1 (k : Nat) (l0 : List S23) : List S23 → Option (Bool)
  | [] => (some (decide ((l0.length : Int) ≤ 64)))
  | x168339 :: xsi168297 => ((tarryref06_May.f x168339.f0 x168339.f1 x168339.f2).bind fun t168346 => (if t168346 = true then (tarryref06_All.r1 k l0 xsi168297) else (some false)))
set_option maxHeartbeats 1000000 in
theorem tarryref06_All.r1_eq (k : Nat) (l0 : List S23)  (hs : l0.length < 4611686018427387904) : ∀ (m i168297 : Nat), l0.length < m + i168297 → i168297 ≤ l0.length → tarryref06_All.l1 k l0 m (i168297 : Int) = tarryref06_All.r1 k l0 (l0.drop i168297) := by
  intro m
  induction m with
  | zero => intro i168297 h hi; omega
  | succ m ih =>
    intro i168297 h hi
    by_cases hc : i168297 < l0.length
    · have hw : wrap64 ((i168297 : Int) + 1) = ((i168297 + 1 : Nat) : Int) := by unfold wrap64; omega
      have hg : l0[(i168297 : Int).toNat]? = some l0[i168297] := by rw [Int.toNat_natCast]; exact List.getElem?_eq_getElem hc
      have ih2 := ih (i168297 + 1) (by omega) (by omega)
      rw [List.drop_eq_getElem_cons hc, tarryref06_All.l1, tarryref06_All.r1, if_pos (by omega), if_pos (by omega), hg, Option.bind_some]
      simp only [hw, ih2]
    · rw [List.drop_of_length_le (by omega), tarryref06_All.l1, tarryref06_All.r1, if_neg (by omega)]
-- tarryref06_Heap.l1: another shape
-- queue_Pop.l99: no index
def tarryref06_Sorted.r9 (k : Nat) (rec_l5 : (List S23) → Option (List S23)) (i204123 : Int) (l204122 : List S23) (x204616 : S23) : List S23 → Nat → Option (List S23)
  | [], i204673 => (if 0 ≤ (i204673 : Int) then (if (i204673 : Int) ≤ (l204122.length : Int) then (if (([] : List S23).length + ((l204122.take (i204673 : Int).toNat).drop 0).length) * 24 ≤ 140737488355328 then (if ((([] : List S23) ++ ((l204122.take (i204673 : Int).toNat).drop 0)).length + ([x204616] : List S23).length) * 24 ≤ 140737488355328 then (if (((([] : List S23) ++ ((l204122.take (i204673 : Int).toNat).drop 0)) ++ ([x204616] : List S23)).length + ((l204122.take l204122.length).drop (i204673 : Int).toNat).length) * 24 ≤ 140737488355328 then (rec_l5 (((([] : List S23) ++ ((l204122.take (i204673 : Int).toNat).drop 0)) ++ ([x204616] : List S23)) ++ ((l204122.take l204122.length).drop (i204673 : Int).toNat))) else none) else none) else none) else none) else none)
  | x204735 :: xsi204673, i204673 => ((tarryref06_Less.f x204616.f0 x204616.f1 x204616.f2 x204735.f0 x204735.f1 x204735.f2).bind fun t204736 => (if t204736 = true then (if (i204673 : Int) ≤ (l204122.length : Int) then (if (([] : List S23).length + ((l204122.take (i204673 : Int).toNat).drop 0).length) * 24 ≤ 140737488355328 then (if ((([] : List S23) ++ ((l204122.take (i204673 : Int).toNat).drop 0)).length + ([x204616] : List S23).length) * 24 ≤ 140737488355328 then (if (((([] : List S23) ++ ((l204122.take (i204673 : Int).toNat).drop 0)) ++ ([x204616] : List S23)).length + ((l204122.take l204122.length).drop (i204673 : Int).toNat).length) * 24 ≤ 140737488355328 then (rec_l5 (((([] : List S23) ++ ((l204122.take (i204673 : Int).toNat).drop 0)) ++ ([x204616] : List S23)) ++ ((l204122.take l204122.length).drop (i204673 : Int).toNat))) else none) else none) else none) else none) else (tarryref06_Sorted.r9 k rec_l5 i204123 l204122 x204616 xsi204673 (i204673 + 1))))
set_option maxHeartbeats 1000000 in
theorem tarryref06_Sorted.r9_eq (k : Nat) (rec_l5 : (List S23) → Int → Option (List S23)) (i204123 : Int) (l204122 : List S23) (x204616 : S23)  (hs : l204122.length < 4611686018427387904) : ∀ (m i204673 : Nat), l204122.length < m + i204673 → i204673 ≤ l204122.length → tarryref06_Sorted.l9 k rec_l5 i204123 l204122 x204616 m (i204673 : Int) = tarryref06_Sorted.r9 k (fun z0 => rec_l5 z0 (wrap64 (i204123 + 1))) i204123 l204122 x204616 (l204122.drop i204673) i204673 := by
  intro m
  induction m with
  | zero => intro i204673 h hi; omega
  | succ m ih =>
    intro i204673 h hi
    by_cases hc : i204673 < l204122.length
    · have hw : wrap64 ((i204673 : Int) + 1) = ((i204673 + 1 : Nat) : Int) := by unfold wrap64; omega
      have hg : l204122[(i204673 : Int).toNat]? = some l204122[i204673] := by rw [Int.toNat_natCast]; exact List.getElem?_eq_getElem hc
      have ih2 := ih (i204673 + 1) (by omega) (by omega)
      rw [List.drop_eq_getElem_cons hc, tarryref06_Sorted.l9, tarryref06_Sorted.r9, if_pos (by omega), if_pos (by omega), hg, Option.bind_some]
      simp only [hw, ih2]
    · rw [List.drop_of_length_le (by omega), tarryref06_Sorted.l9, tarryref06_Sorted.r9, if_neg (by omega)]
      try simp only [Int.natCast_zero]
-- tarryref06_Sorted.l5: an inner loop over l204122
def tarryref06_Same.r1 (k : Nat) (l0 : List S23) (l1 : List S23) : List S23 → Nat → Option (Bool)
  | [], i204843 => (some true)
  | x204866 :: xsi204843, i204843 => ((l1[(i204843 : Int).toNat]?).bind fun x204867 => (if (((x204866.f0 == x204867.f0) && ((x204866.f1 == x204867.f1) && (x204866.f2 == x204867.f2)))) = true then (tarryref06_Same.r1 k l0 l1 xsi204843 (i204843 + 1)) else (some false)))
set_option maxHeartbeats 1000000 in
theorem tarryref06_Same.r1_eq (k : Nat) (l0 : List S23) (l1 : List S23)  (hs : l0.length < 4611686018427387904) : ∀ (m i204843 : Nat), l0.length < m + i204843 → i204843 ≤ l0.length → tarryref06_Same.l1 k l0 l1 m (i204843 : Int) = tarryref06_Same.r1 k l0 l1 (l0.drop i204843) i204843 := by
  intro m
  induction m with
  | zero => intro i204843 h hi; omega
  | succ m ih =>
    intro i204843 h hi
    by_cases hc : i204843 < l0.length
    · have hw : wrap64 ((i204843 : Int) + 1) = ((i204843 + 1 : Nat) : Int) := by unfold wrap64; omega
      have hg : l0[(i204843 : Int).toNat]? = some l0[i204843] := by rw [Int.toNat_natCast]; exact List.getElem?_eq_getElem hc
      have ih2 := ih (i204843 + 1) (by omega) (by omega)
      rw [List.drop_eq_getElem_cons hc, tarryref06_Same.l1, tarryref06_Same.r1, if_pos (by omega), if_pos (by omega), hg, Option.bind_some]
      simp only [hw, ih2]
    · rw [List.drop_of_length_le (by omega), tarryref06_Same.l1, tarryref06_Same.r1, if_neg (by omega)]

end Go.Proofs.Ythgoagnennjagaa.PQueueHeaps
