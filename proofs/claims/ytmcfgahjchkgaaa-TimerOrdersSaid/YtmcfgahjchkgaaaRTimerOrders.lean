/- Written by a program of this repo: what the program's functions do, each as a Lean function, shown of the loaded code; or a statement's row over that; no condition of its own. -/
import Derived.Test.YtmcfgahjchkgaaaPTimerOrdersx0
namespace Go.Proofs.Ytmcfgahjchkgaaa.PTimerOrders
open Go Go.RowKit Go.Proofs.YtmcfgahjchkgaaaV
set_option linter.unusedVariables false
set_option linter.unusedSimpArgs false

def slices_IndexFunc_api_Timer_api_Timer.r1 (k : Nat) (a1_0_0 : Int) (a1_1_0 : Int) (l0 : List S23) : List S23 → Nat → Option (Int)
  | [], i140 => (some (-1))
  | x169 :: xsi140, i140 => ((timer_of_1.f x169.f0 x169.f1 x169.f2 a1_0_0 a1_1_0).bind fun t172 => (if t172 = true then (some (i140 : Int)) else (slices_IndexFunc_api_Timer_api_Timer.r1 k a1_0_0 a1_1_0 l0 xsi140 (i140 + 1))))
set_option maxHeartbeats 1000000 in
theorem slices_IndexFunc_api_Timer_api_Timer.r1_eq (k : Nat) (a1_0_0 : Int) (a1_1_0 : Int) (l0 : List S23)  (hs : l0.length < 4611686018427387904) : ∀ (m i140 : Nat), l0.length < m + i140 → i140 ≤ l0.length → slices_IndexFunc_api_Timer_api_Timer.l1 k a1_0_0 a1_1_0 l0 m (i140 : Int) = slices_IndexFunc_api_Timer_api_Timer.r1 k a1_0_0 a1_1_0 l0 (l0.drop i140) i140 := by
  intro m
  induction m with
  | zero => intro i140 h hi; omega
  | succ m ih =>
    intro i140 h hi
    by_cases hc : i140 < l0.length
    · have hw : wrap64 ((i140 : Int) + 1) = ((i140 + 1 : Nat) : Int) := by unfold wrap64; omega
      have hg : l0[(i140 : Int).toNat]? = some l0[i140] := by rw [Int.toNat_natCast]; exact List.getElem?_eq_getElem hc
      have ih2 := ih (i140 + 1) (by omega) (by omega)
      rw [List.drop_eq_getElem_cons hc, slices_IndexFunc_api_Timer_api_Timer.l1, slices_IndexFunc_api_Timer_api_Timer.r1, if_pos (by omega), if_pos (by omega), hg, Option.bind_some]
      simp only [hw, ih2]
    · rw [List.drop_of_length_le (by omega), slices_IndexFunc_api_Timer_api_Timer.l1, slices_IndexFunc_api_Timer_api_Timer.r1, if_neg (by omega)]
def cmp_Or_int.r1 (k : Nat) (l0 : List Int) : List Int → Option (Int)
  | [] => (some 0)
  | x493 :: xsi467 => (if x493 = 0 then (cmp_Or_int.r1 k l0 xsi467) else (some x493))
set_option maxHeartbeats 1000000 in
theorem cmp_Or_int.r1_eq (k : Nat) (l0 : List Int)  (hs : l0.length < 4611686018427387904) : ∀ (m i467 : Nat), l0.length < m + i467 → i467 ≤ l0.length → cmp_Or_int.l1 k l0 m (i467 : Int) = cmp_Or_int.r1 k l0 (l0.drop i467) := by
  intro m
  induction m with
  | zero => intro i467 h hi; omega
  | succ m ih =>
    intro i467 h hi
    by_cases hc : i467 < l0.length
    · have hw : wrap64 ((i467 : Int) + 1) = ((i467 + 1 : Nat) : Int) := by unfold wrap64; omega
      have hg : l0[(i467 : Int).toNat]? = some l0[i467] := by rw [Int.toNat_natCast]; exact List.getElem?_eq_getElem hc
      have ih2 := ih (i467 + 1) (by omega) (by omega)
      rw [List.drop_eq_getElem_cons hc, cmp_Or_int.l1, cmp_Or_int.r1, if_pos (by omega), if_pos (by omega), hg, Option.bind_some]
      simp only [hw, ih2]
    · rw [List.drop_of_length_le (by omega), cmp_Or_int.l1, cmp_Or_int.r1, if_neg (by omega)]
-- slices_IsSortedFunc_api_Timer_api_Timer.l1: another shape
def timer_Right.r1 (k : Nat) (l0 : List S23) : List S23 → Nat → Option (Bool)
  | [], i321 => (if (l0.length : Int) ≤ 96 then ((slices_IsSortedFunc_api_Timer_api_Timer.f k l0).bind fun t665 => (some t665)) else (some false))
  | x641 :: xsi321, i321 => ((timer_may.f x641.f0 x641.f1 x641.f2).bind fun t645 => (if t645 = true then (if (i321 : Int) ≤ (l0.length : Int) then ((timer_of.f x641.f1 x641.f2).bind fun ⟨t651, t652⟩ => ((slices_ContainsFunc_api_Timer_api_Timer.f k ((l0.take (i321 : Int).toNat).drop 0) t651 t652).bind fun t656 => (if t656 = true then (some false) else (timer_Right.r1 k l0 xsi321 (i321 + 1))))) else none) else (some false)))
set_option maxHeartbeats 1000000 in
theorem timer_Right.r1_eq (k : Nat) (l0 : List S23)  (hs : l0.length < 4611686018427387904) : ∀ (m i321 : Nat), l0.length < m + i321 → i321 ≤ l0.length → timer_Right.l1 k l0 m (i321 : Int) = timer_Right.r1 k l0 (l0.drop i321) i321 := by
  intro m
  induction m with
  | zero => intro i321 h hi; omega
  | succ m ih =>
    intro i321 h hi
    by_cases hc : i321 < l0.length
    · have hw : wrap64 ((i321 : Int) + 1) = ((i321 + 1 : Nat) : Int) := by unfold wrap64; omega
      have hg : l0[(i321 : Int).toNat]? = some l0[i321] := by rw [Int.toNat_natCast]; exact List.getElem?_eq_getElem hc
      have ih2 := ih (i321 + 1) (by omega) (by omega)
      rw [List.drop_eq_getElem_cons hc, timer_Right.l1, timer_Right.r1, if_pos (by omega), if_pos (by omega), hg, Option.bind_some]
      simp only [hw, ih2]
    · rw [List.drop_of_length_le (by omega), timer_Right.l1, timer_Right.r1, if_neg (by omega)]
def timer_parted_Timer.r1 (k : Nat) (a1_0_0 : Int) (a1_1_0 : Int) (l0 : List S23) : List S23 → (List S23) → (List S23) → Option (List S23 × List S23)
  | [], l870, l874 => (some (l870, l874))
  | x938 :: xsi876, l870, l874 => ((timer_of_1.f x938.f0 x938.f1 x938.f2 a1_0_0 a1_1_0).bind fun t942 => (if t942 = true then (if (l870.length + ([x938] : List S23).length) * 24 ≤ 140737488355328 then (timer_parted_Timer.r1 k a1_0_0 a1_1_0 l0 xsi876 (l870 ++ ([x938] : List S23)) l874) else none) else (if (l874.length + ([x938] : List S23).length) * 24 ≤ 140737488355328 then (timer_parted_Timer.r1 k a1_0_0 a1_1_0 l0 xsi876 l870 (l874 ++ ([x938] : List S23))) else none)))
set_option maxHeartbeats 1000000 in
theorem timer_parted_Timer.r1_eq (k : Nat) (a1_0_0 : Int) (a1_1_0 : Int) (l0 : List S23)  (hs : l0.length < 4611686018427387904) : ∀ (m i876 : Nat) (l870 : List S23) (l874 : List S23), l0.length < m + i876 → i876 ≤ l0.length → timer_parted_Timer.l1 k a1_0_0 a1_1_0 l0 m l870 l874 (i876 : Int) = timer_parted_Timer.r1 k a1_0_0 a1_1_0 l0 (l0.drop i876) l870 l874 := by
  intro m
  induction m with
  | zero => intro i876 l870 l874 h hi; omega
  | succ m ih =>
    intro i876 l870 l874 h hi
    by_cases hc : i876 < l0.length
    · have hw : wrap64 ((i876 : Int) + 1) = ((i876 + 1 : Nat) : Int) := by unfold wrap64; omega
      have hg : l0[(i876 : Int).toNat]? = some l0[i876] := by rw [Int.toNat_natCast]; exact List.getElem?_eq_getElem hc
      have ih2 := fun l870 l874 => ih (i876 + 1) l870 l874 (by omega) (by omega)
      rw [List.drop_eq_getElem_cons hc, timer_parted_Timer.l1, timer_parted_Timer.r1, if_pos (by omega), if_pos (by omega), hg, Option.bind_some]
      simp only [hw, ih2]
    · rw [List.drop_of_length_le (by omega), timer_parted_Timer.l1, timer_parted_Timer.r1, if_neg (by omega)]
-- slices_BinarySearchFunc_api_Timer_api_Timer_api_Timer.l1: another shape
def timer_parted_Timer_s16.r1 (k : Nat) (a1_0_0 : Int) (l0 : List S23) : List S23 → (List S23) → (List S23) → Option (List S23 × List S23)
  | [], l1264, l1268 => (some (l1264, l1268))
  | x1332 :: xsi1270, l1264, l1268 => ((timer_Due_1.f x1332.f0 x1332.f1 x1332.f2 a1_0_0).bind fun t1336 => (if t1336 = true then (if (l1264.length + ([x1332] : List S23).length) * 24 ≤ 140737488355328 then (timer_parted_Timer_s16.r1 k a1_0_0 l0 xsi1270 (l1264 ++ ([x1332] : List S23)) l1268) else none) else (if (l1268.length + ([x1332] : List S23).length) * 24 ≤ 140737488355328 then (timer_parted_Timer_s16.r1 k a1_0_0 l0 xsi1270 l1264 (l1268 ++ ([x1332] : List S23))) else none)))
set_option maxHeartbeats 1000000 in
theorem timer_parted_Timer_s16.r1_eq (k : Nat) (a1_0_0 : Int) (l0 : List S23)  (hs : l0.length < 4611686018427387904) : ∀ (m i1270 : Nat) (l1264 : List S23) (l1268 : List S23), l0.length < m + i1270 → i1270 ≤ l0.length → timer_parted_Timer_s16.l1 k a1_0_0 l0 m l1264 l1268 (i1270 : Int) = timer_parted_Timer_s16.r1 k a1_0_0 l0 (l0.drop i1270) l1264 l1268 := by
  intro m
  induction m with
  | zero => intro i1270 l1264 l1268 h hi; omega
  | succ m ih =>
    intro i1270 l1264 l1268 h hi
    by_cases hc : i1270 < l0.length
    · have hw : wrap64 ((i1270 : Int) + 1) = ((i1270 + 1 : Nat) : Int) := by unfold wrap64; omega
      have hg : l0[(i1270 : Int).toNat]? = some l0[i1270] := by rw [Int.toNat_natCast]; exact List.getElem?_eq_getElem hc
      have ih2 := fun l1264 l1268 => ih (i1270 + 1) l1264 l1268 (by omega) (by omega)
      rw [List.drop_eq_getElem_cons hc, timer_parted_Timer_s16.l1, timer_parted_Timer_s16.r1, if_pos (by omega), if_pos (by omega), hg, Option.bind_some]
      simp only [hw, ih2]
    · rw [List.drop_of_length_le (by omega), timer_parted_Timer_s16.l1, timer_parted_Timer_s16.r1, if_neg (by omega)]
def tarryref10_Same.r1 (k : Nat) (l0 : List S23) (l1 : List S23) : List S23 → Nat → Option (Bool)
  | [], i1496 => (some true)
  | x1519 :: xsi1496, i1496 => ((l1[(i1496 : Int).toNat]?).bind fun x1520 => (if (((x1519.f0 == x1520.f0) && ((x1519.f1 == x1520.f1) && (x1519.f2 == x1520.f2)))) = true then (tarryref10_Same.r1 k l0 l1 xsi1496 (i1496 + 1)) else (some false)))
set_option maxHeartbeats 1000000 in
theorem tarryref10_Same.r1_eq (k : Nat) (l0 : List S23) (l1 : List S23)  (hs : l0.length < 4611686018427387904) : ∀ (m i1496 : Nat), l0.length < m + i1496 → i1496 ≤ l0.length → tarryref10_Same.l1 k l0 l1 m (i1496 : Int) = tarryref10_Same.r1 k l0 l1 (l0.drop i1496) i1496 := by
  intro m
  induction m with
  | zero => intro i1496 h hi; omega
  | succ m ih =>
    intro i1496 h hi
    by_cases hc : i1496 < l0.length
    · have hw : wrap64 ((i1496 : Int) + 1) = ((i1496 + 1 : Nat) : Int) := by unfold wrap64; omega
      have hg : l0[(i1496 : Int).toNat]? = some l0[i1496] := by rw [Int.toNat_natCast]; exact List.getElem?_eq_getElem hc
      have ih2 := ih (i1496 + 1) (by omega) (by omega)
      rw [List.drop_eq_getElem_cons hc, tarryref10_Same.l1, tarryref10_Same.r1, if_pos (by omega), if_pos (by omega), hg, Option.bind_some]
      simp only [hw, ih2]
    · rw [List.drop_of_length_le (by omega), tarryref10_Same.l1, tarryref10_Same.r1, if_neg (by omega)]

end Go.Proofs.Ytmcfgahjchkgaaa.PTimerOrders
