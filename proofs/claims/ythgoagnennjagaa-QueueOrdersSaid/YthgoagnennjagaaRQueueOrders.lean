/- Written by a program of this repo: what the program's functions do, each as a Lean function, shown of the loaded code; or a statement's row over that; no condition of its own. -/
import Derived.Test.YthgoagnennjagaaPQueueOrdersx0
namespace Go.Proofs.Ythgoagnennjagaa.PQueueOrders
open Go Go.RowKit Go.Proofs.YthgoagnennjagaaV
set_option linter.unusedVariables false
set_option linter.unusedSimpArgs false

def slices_IndexFunc_api_Wait_api_Wait.r1 (k : Nat) (l0 : List S23) : List S23 → Nat → Option (Int)
  | [], i113 => (some (-1))
  | x142 :: xsi113, i113 => ((queue_all_1.f x142.f0 x142.f1 x142.f2).bind fun t145 => (if t145 = true then (some (i113 : Int)) else (slices_IndexFunc_api_Wait_api_Wait.r1 k l0 xsi113 (i113 + 1))))
set_option maxHeartbeats 1000000 in
theorem slices_IndexFunc_api_Wait_api_Wait.r1_eq (k : Nat) (l0 : List S23)  (hs : l0.length < 4611686018427387904) : ∀ (m i113 : Nat), l0.length < m + i113 → i113 ≤ l0.length → slices_IndexFunc_api_Wait_api_Wait.l1 k l0 m (i113 : Int) = slices_IndexFunc_api_Wait_api_Wait.r1 k l0 (l0.drop i113) i113 := by
  intro m
  induction m with
  | zero => intro i113 h hi; omega
  | succ m ih =>
    intro i113 h hi
    by_cases hc : i113 < l0.length
    · have hw : wrap64 ((i113 : Int) + 1) = ((i113 + 1 : Nat) : Int) := by unfold wrap64; omega
      have hg : l0[(i113 : Int).toNat]? = some l0[i113] := by rw [Int.toNat_natCast]; exact List.getElem?_eq_getElem hc
      have ih2 := ih (i113 + 1) (by omega) (by omega)
      rw [List.drop_eq_getElem_cons hc, slices_IndexFunc_api_Wait_api_Wait.l1, slices_IndexFunc_api_Wait_api_Wait.r1, if_pos (by omega), if_pos (by omega), hg, Option.bind_some]
      simp only [hw, ih2]
    · rw [List.drop_of_length_le (by omega), slices_IndexFunc_api_Wait_api_Wait.l1, slices_IndexFunc_api_Wait_api_Wait.r1, if_neg (by omega)]
def cmp_Or_int.r1 (k : Nat) (l0 : List Int) : List Int → Option (Int)
  | [] => (some 0)
  | x318 :: xsi292 => (if x318 = 0 then (cmp_Or_int.r1 k l0 xsi292) else (some x318))
set_option maxHeartbeats 1000000 in
theorem cmp_Or_int.r1_eq (k : Nat) (l0 : List Int)  (hs : l0.length < 4611686018427387904) : ∀ (m i292 : Nat), l0.length < m + i292 → i292 ≤ l0.length → cmp_Or_int.l1 k l0 m (i292 : Int) = cmp_Or_int.r1 k l0 (l0.drop i292) := by
  intro m
  induction m with
  | zero => intro i292 h hi; omega
  | succ m ih =>
    intro i292 h hi
    by_cases hc : i292 < l0.length
    · have hw : wrap64 ((i292 : Int) + 1) = ((i292 + 1 : Nat) : Int) := by unfold wrap64; omega
      have hg : l0[(i292 : Int).toNat]? = some l0[i292] := by rw [Int.toNat_natCast]; exact List.getElem?_eq_getElem hc
      have ih2 := ih (i292 + 1) (by omega) (by omega)
      rw [List.drop_eq_getElem_cons hc, cmp_Or_int.l1, cmp_Or_int.r1, if_pos (by omega), if_pos (by omega), hg, Option.bind_some]
      simp only [hw, ih2]
    · rw [List.drop_of_length_le (by omega), cmp_Or_int.l1, cmp_Or_int.r1, if_neg (by omega)]
-- queue_Make.l53: no index
-- queue_Make.l46: no index
def queue_Right.r1 (k : Nat) (l0 : List S23) : List S23 → Nat → Option (Bool)
  | [], i66849 => ((queue_all.f k l0).bind fun t66888 => (some t66888))
  | x66882 :: xsi66849, i66849 => (if 0 ≤ IntKind.i64.wrap ((wrap64 ((i66849 : Int) - 1)).tdiv 2) then ((l0[(IntKind.i64.wrap ((wrap64 ((i66849 : Int) - 1)).tdiv 2)).toNat]?).bind fun x66884 => ((queue_Less.f k x66882.f0 x66882.f1 x66882.f2 x66884.f0 x66884.f1 x66884.f2).bind fun t66885 => (if t66885 = true then (some false) else (queue_Right.r1 k l0 xsi66849 (i66849 + 1))))) else none)
set_option maxHeartbeats 1000000 in
theorem queue_Right.r1_eq (k : Nat) (l0 : List S23)  (hs : l0.length < 4611686018427387904) : ∀ (m i66849 : Nat), l0.length < m + i66849 → i66849 ≤ l0.length → queue_Right.l1 k l0 m (i66849 : Int) = queue_Right.r1 k l0 (l0.drop i66849) i66849 := by
  intro m
  induction m with
  | zero => intro i66849 h hi; omega
  | succ m ih =>
    intro i66849 h hi
    by_cases hc : i66849 < l0.length
    · have hw : wrap64 ((i66849 : Int) + 1) = ((i66849 + 1 : Nat) : Int) := by unfold wrap64; omega
      have hg : l0[(i66849 : Int).toNat]? = some l0[i66849] := by rw [Int.toNat_natCast]; exact List.getElem?_eq_getElem hc
      have ih2 := ih (i66849 + 1) (by omega) (by omega)
      rw [List.drop_eq_getElem_cons hc, queue_Right.l1, queue_Right.r1, if_pos (by omega), if_pos (by omega), hg, Option.bind_some]
      simp only [hw, ih2]
    · rw [List.drop_of_length_le (by omega), queue_Right.l1, queue_Right.r1, if_neg (by omega)]
-- queue_Pop.l130: no index
-- queue_Sorted.l80: no index
-- queue_Sorted.l41: no index
-- queue_Push.l3: no index
def tarryref06_Same.r1 (k : Nat) (l0 : List S23) (l1 : List S23) : List S23 → Nat → Option (Bool)
  | [], i203370 => (some true)
  | x203393 :: xsi203370, i203370 => ((l1[(i203370 : Int).toNat]?).bind fun x203394 => (if (((x203393.f0 == x203394.f0) && ((x203393.f1 == x203394.f1) && (x203393.f2 == x203394.f2)))) = true then (tarryref06_Same.r1 k l0 l1 xsi203370 (i203370 + 1)) else (some false)))
set_option maxHeartbeats 1000000 in
theorem tarryref06_Same.r1_eq (k : Nat) (l0 : List S23) (l1 : List S23)  (hs : l0.length < 4611686018427387904) : ∀ (m i203370 : Nat), l0.length < m + i203370 → i203370 ≤ l0.length → tarryref06_Same.l1 k l0 l1 m (i203370 : Int) = tarryref06_Same.r1 k l0 l1 (l0.drop i203370) i203370 := by
  intro m
  induction m with
  | zero => intro i203370 h hi; omega
  | succ m ih =>
    intro i203370 h hi
    by_cases hc : i203370 < l0.length
    · have hw : wrap64 ((i203370 : Int) + 1) = ((i203370 + 1 : Nat) : Int) := by unfold wrap64; omega
      have hg : l0[(i203370 : Int).toNat]? = some l0[i203370] := by rw [Int.toNat_natCast]; exact List.getElem?_eq_getElem hc
      have ih2 := ih (i203370 + 1) (by omega) (by omega)
      rw [List.drop_eq_getElem_cons hc, tarryref06_Same.l1, tarryref06_Same.r1, if_pos (by omega), if_pos (by omega), hg, Option.bind_some]
      simp only [hw, ih2]
    · rw [List.drop_of_length_le (by omega), tarryref06_Same.l1, tarryref06_Same.r1, if_neg (by omega)]
-- tarrylaw06_QueueOrders.l9: another shape
def tarrylaw06_QueueOrders.r7 (k : Nat) (a1 : Int) (l0 : List S23) (r201855 : List S23) (t201856 : Int) : List S23 → (List S23) → Option (Bool)
  | [], l204152 => (tarrylaw06_QueueOrders.j6 k l0 r201855 t201856 l204152)
  | x204276 :: xsi204154, l204152 => ((queue_Push.f k l204152 x204276.f0 x204276.f1 x204276.f2).bind fun ⟨r204280, t204281⟩ => (if t204281 = 0 then (tarrylaw06_QueueOrders.r7 k a1 l0 r201855 t201856 xsi204154 r204280) else ((tarrylaw06_alive.f k).bind fun t204307 => (if t204307 = true then (if t201856 = 1 then (some (t204281 == 1)) else none) else none))))
set_option maxHeartbeats 1000000 in
theorem tarrylaw06_QueueOrders.r7_eq (k : Nat) (a1 : Int) (l0 : List S23) (r201855 : List S23) (t201856 : Int)  (hs : ((([] : List S23) ++ ((((l0.take ((mn (l0.length : Int) 30).toNat)).drop 0).take (((l0.take ((mn (l0.length : Int) 30).toNat)).drop 0).length)).drop (((wrap64 ((a1.tmod (((l0.take ((mn (l0.length : Int) 30).toNat)).drop 0).length : Int)) + (((l0.take ((mn (l0.length : Int) 30).toNat)).drop 0).length : Int))).tmod (((l0.take ((mn (l0.length : Int) 30).toNat)).drop 0).length : Int)).toNat))) ++ ((((l0.take ((mn (l0.length : Int) 30).toNat)).drop 0).take (((wrap64 ((a1.tmod (((l0.take ((mn (l0.length : Int) 30).toNat)).drop 0).length : Int)) + (((l0.take ((mn (l0.length : Int) 30).toNat)).drop 0).length : Int))).tmod (((l0.take ((mn (l0.length : Int) 30).toNat)).drop 0).length : Int)).toNat)).drop 0)).length < 4611686018427387904) : ∀ (m i204154 : Nat) (l204152 : List S23), ((([] : List S23) ++ ((((l0.take ((mn (l0.length : Int) 30).toNat)).drop 0).take (((l0.take ((mn (l0.length : Int) 30).toNat)).drop 0).length)).drop (((wrap64 ((a1.tmod (((l0.take ((mn (l0.length : Int) 30).toNat)).drop 0).length : Int)) + (((l0.take ((mn (l0.length : Int) 30).toNat)).drop 0).length : Int))).tmod (((l0.take ((mn (l0.length : Int) 30).toNat)).drop 0).length : Int)).toNat))) ++ ((((l0.take ((mn (l0.length : Int) 30).toNat)).drop 0).take (((wrap64 ((a1.tmod (((l0.take ((mn (l0.length : Int) 30).toNat)).drop 0).length : Int)) + (((l0.take ((mn (l0.length : Int) 30).toNat)).drop 0).length : Int))).tmod (((l0.take ((mn (l0.length : Int) 30).toNat)).drop 0).length : Int)).toNat)).drop 0)).length < m + i204154 → i204154 ≤ ((([] : List S23) ++ ((((l0.take ((mn (l0.length : Int) 30).toNat)).drop 0).take (((l0.take ((mn (l0.length : Int) 30).toNat)).drop 0).length)).drop (((wrap64 ((a1.tmod (((l0.take ((mn (l0.length : Int) 30).toNat)).drop 0).length : Int)) + (((l0.take ((mn (l0.length : Int) 30).toNat)).drop 0).length : Int))).tmod (((l0.take ((mn (l0.length : Int) 30).toNat)).drop 0).length : Int)).toNat))) ++ ((((l0.take ((mn (l0.length : Int) 30).toNat)).drop 0).take (((wrap64 ((a1.tmod (((l0.take ((mn (l0.length : Int) 30).toNat)).drop 0).length : Int)) + (((l0.take ((mn (l0.length : Int) 30).toNat)).drop 0).length : Int))).tmod (((l0.take ((mn (l0.length : Int) 30).toNat)).drop 0).length : Int)).toNat)).drop 0)).length → tarrylaw06_QueueOrders.l7 k a1 l0 r201855 t201856 m l204152 (i204154 : Int) = tarrylaw06_QueueOrders.r7 k a1 l0 r201855 t201856 (((([] : List S23) ++ ((((l0.take ((mn (l0.length : Int) 30).toNat)).drop 0).take (((l0.take ((mn (l0.length : Int) 30).toNat)).drop 0).length)).drop (((wrap64 ((a1.tmod (((l0.take ((mn (l0.length : Int) 30).toNat)).drop 0).length : Int)) + (((l0.take ((mn (l0.length : Int) 30).toNat)).drop 0).length : Int))).tmod (((l0.take ((mn (l0.length : Int) 30).toNat)).drop 0).length : Int)).toNat))) ++ ((((l0.take ((mn (l0.length : Int) 30).toNat)).drop 0).take (((wrap64 ((a1.tmod (((l0.take ((mn (l0.length : Int) 30).toNat)).drop 0).length : Int)) + (((l0.take ((mn (l0.length : Int) 30).toNat)).drop 0).length : Int))).tmod (((l0.take ((mn (l0.length : Int) 30).toNat)).drop 0).length : Int)).toNat)).drop 0)).drop i204154) l204152 := by
  intro m
  induction m with
  | zero => intro i204154 l204152 h hi; omega
  | succ m ih =>
    intro i204154 l204152 h hi
    by_cases hc : i204154 < ((([] : List S23) ++ ((((l0.take ((mn (l0.length : Int) 30).toNat)).drop 0).take (((l0.take ((mn (l0.length : Int) 30).toNat)).drop 0).length)).drop (((wrap64 ((a1.tmod (((l0.take ((mn (l0.length : Int) 30).toNat)).drop 0).length : Int)) + (((l0.take ((mn (l0.length : Int) 30).toNat)).drop 0).length : Int))).tmod (((l0.take ((mn (l0.length : Int) 30).toNat)).drop 0).length : Int)).toNat))) ++ ((((l0.take ((mn (l0.length : Int) 30).toNat)).drop 0).take (((wrap64 ((a1.tmod (((l0.take ((mn (l0.length : Int) 30).toNat)).drop 0).length : Int)) + (((l0.take ((mn (l0.length : Int) 30).toNat)).drop 0).length : Int))).tmod (((l0.take ((mn (l0.length : Int) 30).toNat)).drop 0).length : Int)).toNat)).drop 0)).length
    · have hw : wrap64 ((i204154 : Int) + 1) = ((i204154 + 1 : Nat) : Int) := by unfold wrap64; omega
      have hg : ((([] : List S23) ++ ((((l0.take ((mn (l0.length : Int) 30).toNat)).drop 0).take (((l0.take ((mn (l0.length : Int) 30).toNat)).drop 0).length)).drop (((wrap64 ((a1.tmod (((l0.take ((mn (l0.length : Int) 30).toNat)).drop 0).length : Int)) + (((l0.take ((mn (l0.length : Int) 30).toNat)).drop 0).length : Int))).tmod (((l0.take ((mn (l0.length : Int) 30).toNat)).drop 0).length : Int)).toNat))) ++ ((((l0.take ((mn (l0.length : Int) 30).toNat)).drop 0).take (((wrap64 ((a1.tmod (((l0.take ((mn (l0.length : Int) 30).toNat)).drop 0).length : Int)) + (((l0.take ((mn (l0.length : Int) 30).toNat)).drop 0).length : Int))).tmod (((l0.take ((mn (l0.length : Int) 30).toNat)).drop 0).length : Int)).toNat)).drop 0))[(i204154 : Int).toNat]? = some ((([] : List S23) ++ ((((l0.take ((mn (l0.length : Int) 30).toNat)).drop 0).take (((l0.take ((mn (l0.length : Int) 30).toNat)).drop 0).length)).drop (((wrap64 ((a1.tmod (((l0.take ((mn (l0.length : Int) 30).toNat)).drop 0).length : Int)) + (((l0.take ((mn (l0.length : Int) 30).toNat)).drop 0).length : Int))).tmod (((l0.take ((mn (l0.length : Int) 30).toNat)).drop 0).length : Int)).toNat))) ++ ((((l0.take ((mn (l0.length : Int) 30).toNat)).drop 0).take (((wrap64 ((a1.tmod (((l0.take ((mn (l0.length : Int) 30).toNat)).drop 0).length : Int)) + (((l0.take ((mn (l0.length : Int) 30).toNat)).drop 0).length : Int))).tmod (((l0.take ((mn (l0.length : Int) 30).toNat)).drop 0).length : Int)).toNat)).drop 0))[i204154] := by rw [Int.toNat_natCast]; exact List.getElem?_eq_getElem hc
      have ih2 := fun l204152 => ih (i204154 + 1) l204152 (by omega) (by omega)
      rw [List.drop_eq_getElem_cons hc, tarrylaw06_QueueOrders.l7, tarrylaw06_QueueOrders.r7, if_pos (by omega), if_pos (by omega), hg, Option.bind_some]
      simp only [hw, ih2]
    · rw [List.drop_of_length_le (by omega), tarrylaw06_QueueOrders.l7, tarrylaw06_QueueOrders.r7, if_neg (by omega)]

end Go.Proofs.Ythgoagnennjagaa.PQueueOrders
