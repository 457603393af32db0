/- Written by a program of this repo: what the program's functions do, each as a Lean function, shown of the loaded code; or a statement's row over that; no condition of its own. -/
import Derived.Test.YtmcfgahjchkgaaaPTimerPassesx0
namespace Go.Proofs.Ytmcfgahjchkgaaa.PTimerPasses
open Go Go.RowKit Go.Proofs.YtmcfgahjchkgaaaV
set_option linter.unusedVariables false
set_option linter.unusedSimpArgs false

def slices_IndexFunc_api_Timer_api_Timer.r1 (k : Nat) (a1_0_0 : Int) (a1_1_0 : Int) (l0 : List S23) : List S23 → Nat → Option (Int)
  | [], i138 => (some (-1))
  | x167 :: xsi138, i138 => ((timer_of_1.f x167.f0 x167.f1 x167.f2 a1_0_0 a1_1_0).bind fun t170 => (if t170 = true then (some (i138 : Int)) else (slices_IndexFunc_api_Timer_api_Timer.r1 k a1_0_0 a1_1_0 l0 xsi138 (i138 + 1))))
set_option maxHeartbeats 1000000 in
theorem slices_IndexFunc_api_Timer_api_Timer.r1_eq (k : Nat) (a1_0_0 : Int) (a1_1_0 : Int) (l0 : List S23)  (hs : l0.length < 4611686018427387904) : ∀ (m i138 : Nat), l0.length < m + i138 → i138 ≤ l0.length → slices_IndexFunc_api_Timer_api_Timer.l1 k a1_0_0 a1_1_0 l0 m (i138 : Int) = slices_IndexFunc_api_Timer_api_Timer.r1 k a1_0_0 a1_1_0 l0 (l0.drop i138) i138 := by
  intro m
  induction m with
  | zero => intro i138 h hi; omega
  | succ m ih =>
    intro i138 h hi
    by_cases hc : i138 < l0.length
    · have hw : wrap64 ((i138 : Int) + 1) = ((i138 + 1 : Nat) : Int) := by unfold wrap64; omega
      have hg : l0[(i138 : Int).toNat]? = some l0[i138] := by rw [Int.toNat_natCast]; exact List.getElem?_eq_getElem hc
      have ih2 := ih (i138 + 1) (by omega) (by omega)
      rw [List.drop_eq_getElem_cons hc, slices_IndexFunc_api_Timer_api_Timer.l1, slices_IndexFunc_api_Timer_api_Timer.r1, if_pos (by omega), if_pos (by omega), hg, Option.bind_some]
      simp only [hw, ih2]
    · rw [List.drop_of_length_le (by omega), slices_IndexFunc_api_Timer_api_Timer.l1, slices_IndexFunc_api_Timer_api_Timer.r1, if_neg (by omega)]
def cmp_Or_int.r1 (k : Nat) (l0 : List Int) : List Int → Option (Int)
  | [] => (some 0)
  | x491 :: xsi465 => (if x491 = 0 then (cmp_Or_int.r1 k l0 xsi465) else (some x491))
set_option maxHeartbeats 1000000 in
theorem cmp_Or_int.r1_eq (k : Nat) (l0 : List Int)  (hs : l0.length < 4611686018427387904) : ∀ (m i465 : Nat), l0.length < m + i465 → i465 ≤ l0.length → cmp_Or_int.l1 k l0 m (i465 : Int) = cmp_Or_int.r1 k l0 (l0.drop i465) := by
  intro m
  induction m with
  | zero => intro i465 h hi; omega
  | succ m ih =>
    intro i465 h hi
    by_cases hc : i465 < l0.length
    · have hw : wrap64 ((i465 : Int) + 1) = ((i465 + 1 : Nat) : Int) := by unfold wrap64; omega
      have hg : l0[(i465 : Int).toNat]? = some l0[i465] := by rw [Int.toNat_natCast]; exact List.getElem?_eq_getElem hc
      have ih2 := ih (i465 + 1) (by omega) (by omega)
      rw [List.drop_eq_getElem_cons hc, cmp_Or_int.l1, cmp_Or_int.r1, if_pos (by omega), if_pos (by omega), hg, Option.bind_some]
      simp only [hw, ih2]
    · rw [List.drop_of_length_le (by omega), cmp_Or_int.l1, cmp_Or_int.r1, if_neg (by omega)]
-- slices_IsSortedFunc_api_Timer_api_Timer.l1: another shape
def timer_Right.r1 (k : Nat) (l0 : List S23) : List S23 → Nat → Option (Bool)
  | [], i319 => (if (l0.length : Int) ≤ 96 then ((slices_IsSortedFunc_api_Timer_api_Timer.f k l0).bind fun t663 => (some t663)) else (some false))
  | x639 :: xsi319, i319 => ((timer_may.f x639.f0 x639.f1 x639.f2).bind fun t643 => (if t643 = true then (if (i319 : Int) ≤ (l0.length : Int) then ((timer_of.f x639.f1 x639.f2).bind fun ⟨t649, t650⟩ => ((slices_ContainsFunc_api_Timer_api_Timer.f k ((l0.take (i319 : Int).toNat).drop 0) t649 t650).bind fun t654 => (if t654 = true then (some false) else (timer_Right.r1 k l0 xsi319 (i319 + 1))))) else none) else (some false)))
set_option maxHeartbeats 1000000 in
theorem timer_Right.r1_eq (k : Nat) (l0 : List S23)  (hs : l0.length < 4611686018427387904) : ∀ (m i319 : Nat), l0.length < m + i319 → i319 ≤ l0.length → timer_Right.l1 k l0 m (i319 : Int) = timer_Right.r1 k l0 (l0.drop i319) i319 := by
  intro m
  induction m with
  | zero => intro i319 h hi; omega
  | succ m ih =>
    intro i319 h hi
    by_cases hc : i319 < l0.length
    · have hw : wrap64 ((i319 : Int) + 1) = ((i319 + 1 : Nat) : Int) := by unfold wrap64; omega
      have hg : l0[(i319 : Int).toNat]? = some l0[i319] := by rw [Int.toNat_natCast]; exact List.getElem?_eq_getElem hc
      have ih2 := ih (i319 + 1) (by omega) (by omega)
      rw [List.drop_eq_getElem_cons hc, timer_Right.l1, timer_Right.r1, if_pos (by omega), if_pos (by omega), hg, Option.bind_some]
      simp only [hw, ih2]
    · rw [List.drop_of_length_le (by omega), timer_Right.l1, timer_Right.r1, if_neg (by omega)]
def timer_parted_Timer.r1 (k : Nat) (a1_0_0 : Int) (l0 : List S23) : List S23 → (List S23) → (List S23) → Option (List S23 × List S23)
  | [], l853, l857 => (some (l853, l857))
  | x921 :: xsi859, l853, l857 => ((timer_Due_1.f x921.f0 x921.f1 x921.f2 a1_0_0).bind fun t925 => (if t925 = true then (if (l853.length + ([x921] : List S23).length) * 24 ≤ 140737488355328 then (timer_parted_Timer.r1 k a1_0_0 l0 xsi859 (l853 ++ ([x921] : List S23)) l857) else none) else (if (l857.length + ([x921] : List S23).length) * 24 ≤ 140737488355328 then (timer_parted_Timer.r1 k a1_0_0 l0 xsi859 l853 (l857 ++ ([x921] : List S23))) else none)))
set_option maxHeartbeats 1000000 in
theorem timer_parted_Timer.r1_eq (k : Nat) (a1_0_0 : Int) (l0 : List S23)  (hs : l0.length < 4611686018427387904) : ∀ (m i859 : Nat) (l853 : List S23) (l857 : List S23), l0.length < m + i859 → i859 ≤ l0.length → timer_parted_Timer.l1 k a1_0_0 l0 m l853 l857 (i859 : Int) = timer_parted_Timer.r1 k a1_0_0 l0 (l0.drop i859) l853 l857 := by
  intro m
  induction m with
  | zero => intro i859 l853 l857 h hi; omega
  | succ m ih =>
    intro i859 l853 l857 h hi
    by_cases hc : i859 < l0.length
    · have hw : wrap64 ((i859 : Int) + 1) = ((i859 + 1 : Nat) : Int) := by unfold wrap64; omega
      have hg : l0[(i859 : Int).toNat]? = some l0[i859] := by rw [Int.toNat_natCast]; exact List.getElem?_eq_getElem hc
      have ih2 := fun l853 l857 => ih (i859 + 1) l853 l857 (by omega) (by omega)
      rw [List.drop_eq_getElem_cons hc, timer_parted_Timer.l1, timer_parted_Timer.r1, if_pos (by omega), if_pos (by omega), hg, Option.bind_some]
      simp only [hw, ih2]
    · rw [List.drop_of_length_le (by omega), timer_parted_Timer.l1, timer_parted_Timer.r1, if_neg (by omega)]
def timer_parted_Timer_s15.r1 (k : Nat) (a1_0_0 : Int) (a1_1_0 : Int) (l0 : List S23) : List S23 → (List S23) → (List S23) → Option (List S23 × List S23)
  | [], l1162, l1166 => (some (l1162, l1166))
  | x1230 :: xsi1168, l1162, l1166 => ((timer_of_1.f x1230.f0 x1230.f1 x1230.f2 a1_0_0 a1_1_0).bind fun t1234 => (if t1234 = true then (if (l1162.length + ([x1230] : List S23).length) * 24 ≤ 140737488355328 then (timer_parted_Timer_s15.r1 k a1_0_0 a1_1_0 l0 xsi1168 (l1162 ++ ([x1230] : List S23)) l1166) else none) else (if (l1166.length + ([x1230] : List S23).length) * 24 ≤ 140737488355328 then (timer_parted_Timer_s15.r1 k a1_0_0 a1_1_0 l0 xsi1168 l1162 (l1166 ++ ([x1230] : List S23))) else none)))
set_option maxHeartbeats 1000000 in
theorem timer_parted_Timer_s15.r1_eq (k : Nat) (a1_0_0 : Int) (a1_1_0 : Int) (l0 : List S23)  (hs : l0.length < 4611686018427387904) : ∀ (m i1168 : Nat) (l1162 : List S23) (l1166 : List S23), l0.length < m + i1168 → i1168 ≤ l0.length → timer_parted_Timer_s15.l1 k a1_0_0 a1_1_0 l0 m l1162 l1166 (i1168 : Int) = timer_parted_Timer_s15.r1 k a1_0_0 a1_1_0 l0 (l0.drop i1168) l1162 l1166 := by
  intro m
  induction m with
  | zero => intro i1168 l1162 l1166 h hi; omega
  | succ m ih =>
    intro i1168 l1162 l1166 h hi
    by_cases hc : i1168 < l0.length
    · have hw : wrap64 ((i1168 : Int) + 1) = ((i1168 + 1 : Nat) : Int) := by unfold wrap64; omega
      have hg : l0[(i1168 : Int).toNat]? = some l0[i1168] := by rw [Int.toNat_natCast]; exact List.getElem?_eq_getElem hc
      have ih2 := fun l1162 l1166 => ih (i1168 + 1) l1162 l1166 (by omega) (by omega)
      rw [List.drop_eq_getElem_cons hc, timer_parted_Timer_s15.l1, timer_parted_Timer_s15.r1, if_pos (by omega), if_pos (by omega), hg, Option.bind_some]
      simp only [hw, ih2]
    · rw [List.drop_of_length_le (by omega), timer_parted_Timer_s15.l1, timer_parted_Timer_s15.r1, if_neg (by omega)]
-- slices_BinarySearchFunc_api_Timer_api_Timer_api_Timer.l1: another shape
def tarryref10_Same.r1 (k : Nat) (l0 : List S23) (l1 : List S23) : List S23 → Nat → Option (Bool)
  | [], i1482 => (some true)
  | x1505 :: xsi1482, i1482 => ((l1[(i1482 : Int).toNat]?).bind fun x1506 => (if (((x1505.f0 == x1506.f0) && ((x1505.f1 == x1506.f1) && (x1505.f2 == x1506.f2)))) = true then (tarryref10_Same.r1 k l0 l1 xsi1482 (i1482 + 1)) else (some false)))
set_option maxHeartbeats 1000000 in
theorem tarryref10_Same.r1_eq (k : Nat) (l0 : List S23) (l1 : List S23)  (hs : l0.length < 4611686018427387904) : ∀ (m i1482 : Nat), l0.length < m + i1482 → i1482 ≤ l0.length → tarryref10_Same.l1 k l0 l1 m (i1482 : Int) = tarryref10_Same.r1 k l0 l1 (l0.drop i1482) i1482 := by
  intro m
  induction m with
  | zero => intro i1482 h hi; omega
  | succ m ih =>
    intro i1482 h hi
    by_cases hc : i1482 < l0.length
    · have hw : wrap64 ((i1482 : Int) + 1) = ((i1482 + 1 : Nat) : Int) := by unfold wrap64; omega
      have hg : l0[(i1482 : Int).toNat]? = some l0[i1482] := by rw [Int.toNat_natCast]; exact List.getElem?_eq_getElem hc
      have ih2 := ih (i1482 + 1) (by omega) (by omega)
      rw [List.drop_eq_getElem_cons hc, tarryref10_Same.l1, tarryref10_Same.r1, if_pos (by omega), if_pos (by omega), hg, Option.bind_some]
      simp only [hw, ih2]
    · rw [List.drop_of_length_le (by omega), tarryref10_Same.l1, tarryref10_Same.r1, if_neg (by omega)]

end Go.Proofs.Ytmcfgahjchkgaaa.PTimerPasses
