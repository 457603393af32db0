/- Written by a program of this repo: what the program's functions do, each as a Lean function, shown of the loaded code; or a statement's row over that; no condition of its own. -/
import Derived.Test.YthgoagnennjagaaPQueueTopx0
namespace Go.Proofs.Ythgoagnennjagaa.PQueueTop
open Go Go.RowKit Go.Proofs.YthgoagnennjagaaV
set_option linter.unusedVariables false
set_option linter.unusedSimpArgs false

def cmp_Or_int.r1 (k : Nat) (l0 : List Int) : List Int → Option (Int)
  | [] => (some 0)
  | x136 :: xsi110 => (if x136 = 0 then (cmp_Or_int.r1 k l0 xsi110) else (some x136))
set_option maxHeartbeats 1000000 in
theorem cmp_Or_int.r1_eq (k : Nat) (l0 : List Int)  (hs : l0.length < 4611686018427387904) : ∀ (m i110 : Nat), l0.length < m + i110 → i110 ≤ l0.length → cmp_Or_int.l1 k l0 m (i110 : Int) = cmp_Or_int.r1 k l0 (l0.drop i110) := by
  intro m
  induction m with
  | zero => intro i110 h hi; omega
  | succ m ih =>
    intro i110 h hi
    by_cases hc : i110 < l0.length
    · have hw : wrap64 ((i110 : Int) + 1) = ((i110 + 1 : Nat) : Int) := by unfold wrap64; omega
      have hg : l0[(i110 : Int).toNat]? = some l0[i110] := by rw [Int.toNat_natCast]; exact List.getElem?_eq_getElem hc
      have ih2 := ih (i110 + 1) (by omega) (by omega)
      rw [List.drop_eq_getElem_cons hc, cmp_Or_int.l1, cmp_Or_int.r1, if_pos (by omega), if_pos (by omega), hg, Option.bind_some]
      simp only [hw, ih2]
    · rw [List.drop_of_length_le (by omega), cmp_Or_int.l1, cmp_Or_int.r1, if_neg (by omega)]
def slices_IndexFunc_api_Wait_api_Wait.r1 (k : Nat) (l0 : List S23) : List S23 → Nat → Option (Int)
  | [], i331 => (some (-1))
  | x360 :: xsi331, i331 => ((queue_all_1.f x360.f0 x360.f1 x360.f2).bind fun t363 => (if t363 = true then (some (i331 : Int)) else (slices_IndexFunc_api_Wait_api_Wait.r1 k l0 xsi331 (i331 + 1))))
set_option maxHeartbeats 1000000 in
theorem slices_IndexFunc_api_Wait_api_Wait.r1_eq (k : Nat) (l0 : List S23)  (hs : l0.length < 4611686018427387904) : ∀ (m i331 : Nat), l0.length < m + i331 → i331 ≤ l0.length → slices_IndexFunc_api_Wait_api_Wait.l1 k l0 m (i331 : Int) = slices_IndexFunc_api_Wait_api_Wait.r1 k l0 (l0.drop i331) i331 := by
  intro m
  induction m with
  | zero => intro i331 h hi; omega
  | succ m ih =>
    intro i331 h hi
    by_cases hc : i331 < l0.length
    · have hw : wrap64 ((i331 : Int) + 1) = ((i331 + 1 : Nat) : Int) := by unfold wrap64; omega
      have hg : l0[(i331 : Int).toNat]? = some l0[i331] := by rw [Int.toNat_natCast]; exact List.getElem?_eq_getElem hc
      have ih2 := ih (i331 + 1) (by omega) (by omega)
      rw [List.drop_eq_getElem_cons hc, slices_IndexFunc_api_Wait_api_Wait.l1, slices_IndexFunc_api_Wait_api_Wait.r1, if_pos (by omega), if_pos (by omega), hg, Option.bind_some]
      simp only [hw, ih2]
    · rw [List.drop_of_length_le (by omega), slices_IndexFunc_api_Wait_api_Wait.l1, slices_IndexFunc_api_Wait_api_Wait.r1, if_neg (by omega)]
def queue_Right.r1 (k : Nat) (l0 : List S23) : List S23 → Nat → Option (Bool)
  | [], i208 => ((queue_all.f k l0).bind fun t395 => (some t395))
  | x389 :: xsi208, i208 => (if 0 ≤ IntKind.i64.wrap ((wrap64 ((i208 : Int) - 1)).tdiv 2) then ((l0[(IntKind.i64.wrap ((wrap64 ((i208 : Int) - 1)).tdiv 2)).toNat]?).bind fun x391 => ((queue_Less.f k x389.f0 x389.f1 x389.f2 x391.f0 x391.f1 x391.f2).bind fun t392 => (if t392 = true then (some false) else (queue_Right.r1 k l0 xsi208 (i208 + 1))))) else none)
set_option maxHeartbeats 1000000 in
theorem queue_Right.r1_eq (k : Nat) (l0 : List S23)  (hs : l0.length < 4611686018427387904) : ∀ (m i208 : Nat), l0.length < m + i208 → i208 ≤ l0.length → queue_Right.l1 k l0 m (i208 : Int) = queue_Right.r1 k l0 (l0.drop i208) i208 := by
  intro m
  induction m with
  | zero => intro i208 h hi; omega
  | succ m ih =>
    intro i208 h hi
    by_cases hc : i208 < l0.length
    · have hw : wrap64 ((i208 : Int) + 1) = ((i208 + 1 : Nat) : Int) := by unfold wrap64; omega
      have hg : l0[(i208 : Int).toNat]? = some l0[i208] := by rw [Int.toNat_natCast]; exact List.getElem?_eq_getElem hc
      have ih2 := ih (i208 + 1) (by omega) (by omega)
      rw [List.drop_eq_getElem_cons hc, queue_Right.l1, queue_Right.r1, if_pos (by omega), if_pos (by omega), hg, Option.bind_some]
      simp only [hw, ih2]
    · rw [List.drop_of_length_le (by omega), queue_Right.l1, queue_Right.r1, if_neg (by omega)]
-- queue_Push.l3: no index
-- queue_Make.l53: no index
-- queue_Make.l46: no index
-- queue_Pop.l130: no index

end Go.Proofs.Ythgoagnennjagaa.PQueueTop
