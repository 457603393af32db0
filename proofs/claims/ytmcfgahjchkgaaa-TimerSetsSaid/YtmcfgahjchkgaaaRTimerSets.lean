/- Written by a program of this repo: what the program's functions do, each as a Lean function, shown of the loaded code; or a statement's row over that; no condition of its own. -/
import Derived.Test.YtmcfgahjchkgaaaPTimerSetsx0
namespace Go.Proofs.Ytmcfgahjchkgaaa.PTimerSets
open Go Go.RowKit Go.Proofs.YtmcfgahjchkgaaaV
set_option linter.unusedVariables false
set_option linter.unusedSimpArgs false

def slices_IndexFunc_api_Timer_api_Timer.r1 (k : Nat) (a1_0_0 : Int) (a1_1_0 : Int) (l0 : List S23) : List S23 → Nat → Option (Int)
  | [], i139 => (some (-1))
  | x168 :: xsi139, i139 => ((timer_of_1.f x168.f0 x168.f1 x168.f2 a1_0_0 a1_1_0).bind fun t171 => (if t171 = true then (some (i139 : Int)) else (slices_IndexFunc_api_Timer_api_Timer.r1 k a1_0_0 a1_1_0 l0 xsi139 (i139 + 1))))
set_option maxHeartbeats 1000000 in
theorem slices_IndexFunc_api_Timer_api_Timer.r1_eq (k : Nat) (a1_0_0 : Int) (a1_1_0 : Int) (l0 : List S23)  (hs : l0.length < 4611686018427387904) : ∀ (m i139 : Nat), l0.length < m + i139 → i139 ≤ l0.length → slices_IndexFunc_api_Timer_api_Timer.l1 k a1_0_0 a1_1_0 l0 m (i139 : Int) = slices_IndexFunc_api_Timer_api_Timer.r1 k a1_0_0 a1_1_0 l0 (l0.drop i139) i139 := by
  intro m
  induction m with
  | zero => intro i139 h hi; omega
  | succ m ih =>
    intro i139 h hi
    by_cases hc : i139 < l0.length
    · have hw : wrap64 ((i139 : Int) + 1) = ((i139 + 1 : Nat) : Int) := by unfold wrap64; omega
      have hg : l0[(i139 : Int).toNat]? = some l0[i139] := by rw [Int.toNat_natCast]; exact List.getElem?_eq_getElem hc
      have ih2 := ih (i139 + 1) (by omega) (by omega)
      rw [List.drop_eq_getElem_cons hc, slices_IndexFunc_api_Timer_api_Timer.l1, slices_IndexFunc_api_Timer_api_Timer.r1, if_pos (by omega), if_pos (by omega), hg, Option.bind_some]
      simp only [hw, ih2]
    · rw [List.drop_of_length_le (by omega), slices_IndexFunc_api_Timer_api_Timer.l1, slices_IndexFunc_api_Timer_api_Timer.r1, if_neg (by omega)]
def cmp_Or_int.r1 (k : Nat) (l0 : List Int) : List Int → Option (Int)
  | [] => (some 0)
  | x492 :: xsi466 => (if x492 = 0 then (cmp_Or_int.r1 k l0 xsi466) else (some x492))
set_option maxHeartbeats 1000000 in
theorem cmp_Or_int.r1_eq (k : Nat) (l0 : List Int)  (hs : l0.length < 4611686018427387904) : ∀ (m i466 : Nat), l0.length < m + i466 → i466 ≤ l0.length → cmp_Or_int.l1 k l0 m (i466 : Int) = cmp_Or_int.r1 k l0 (l0.drop i466) := by
  intro m
  induction m with
  | zero => intro i466 h hi; omega
  | succ m ih =>
    intro i466 h hi
    by_cases hc : i466 < l0.length
    · have hw : wrap64 ((i466 : Int) + 1) = ((i466 + 1 : Nat) : Int) := by unfold wrap64; omega
      have hg : l0[(i466 : Int).toNat]? = some l0[i466] := by rw [Int.toNat_natCast]; exact List.getElem?_eq_getElem hc
      have ih2 := ih (i466 + 1) (by omega) (by omega)
      rw [List.drop_eq_getElem_cons hc, cmp_Or_int.l1, cmp_Or_int.r1, if_pos (by omega), if_pos (by omega), hg, Option.bind_some]
      simp only [hw, ih2]
    · rw [List.drop_of_length_le (by omega), cmp_Or_int.l1, cmp_Or_int.r1, if_neg (by omega)]
-- slices_IsSortedFunc_api_Timer_api_Timer.l1: another shape
def timer_Right.r1 (k : Nat) (l0 : List S23) : List S23 → Nat → Option (Bool)
  | [], i320 => (if (l0.length : Int) ≤ 96 then ((slices_IsSortedFunc_api_Timer_api_Timer.f k l0).bind fun t664 => (some t664)) else (some false))
  | x640 :: xsi320, i320 => ((timer_may.f x640.f0 x640.f1 x640.f2).bind fun t644 => (if t644 = true then (if (i320 : Int) ≤ (l0.length : Int) then ((timer_of.f x640.f1 x640.f2).bind fun ⟨t650, t651⟩ => ((slices_ContainsFunc_api_Timer_api_Timer.f k ((l0.take (i320 : Int).toNat).drop 0) t650 t651).bind fun t655 => (if t655 = true then (some false) else (timer_Right.r1 k l0 xsi320 (i320 + 1))))) else none) else (some false)))
set_option maxHeartbeats 1000000 in
theorem timer_Right.r1_eq (k : Nat) (l0 : List S23)  (hs : l0.length < 4611686018427387904) : ∀ (m i320 : Nat), l0.length < m + i320 → i320 ≤ l0.length → timer_Right.l1 k l0 m (i320 : Int) = timer_Right.r1 k l0 (l0.drop i320) i320 := by
  intro m
  induction m with
  | zero => intro i320 h hi; omega
  | succ m ih =>
    intro i320 h hi
    by_cases hc : i320 < l0.length
    · have hw : wrap64 ((i320 : Int) + 1) = ((i320 + 1 : Nat) : Int) := by unfold wrap64; omega
      have hg : l0[(i320 : Int).toNat]? = some l0[i320] := by rw [Int.toNat_natCast]; exact List.getElem?_eq_getElem hc
      have ih2 := ih (i320 + 1) (by omega) (by omega)
      rw [List.drop_eq_getElem_cons hc, timer_Right.l1, timer_Right.r1, if_pos (by omega), if_pos (by omega), hg, Option.bind_some]
      simp only [hw, ih2]
    · rw [List.drop_of_length_le (by omega), timer_Right.l1, timer_Right.r1, if_neg (by omega)]
def timer_parted_Timer.r1 (k : Nat) (a1_0_0 : Int) (a1_1_0 : Int) (l0 : List S23) : List S23 → (List S23) → (List S23) → Option (List S23 × List S23)
  | [], l869, l873 => (some (l869, l873))
  | x937 :: xsi875, l869, l873 => ((timer_of_1.f x937.f0 x937.f1 x937.f2 a1_0_0 a1_1_0).bind fun t941 => (if t941 = true then (if (l869.length + ([x937] : List S23).length) * 24 ≤ 140737488355328 then (timer_parted_Timer.r1 k a1_0_0 a1_1_0 l0 xsi875 (l869 ++ ([x937] : List S23)) l873) else none) else (if (l873.length + ([x937] : List S23).length) * 24 ≤ 140737488355328 then (timer_parted_Timer.r1 k a1_0_0 a1_1_0 l0 xsi875 l869 (l873 ++ ([x937] : List S23))) else none)))
set_option maxHeartbeats 1000000 in
theorem timer_parted_Timer.r1_eq (k : Nat) (a1_0_0 : Int) (a1_1_0 : Int) (l0 : List S23)  (hs : l0.length < 4611686018427387904) : ∀ (m i875 : Nat) (l869 : List S23) (l873 : List S23), l0.length < m + i875 → i875 ≤ l0.length → timer_parted_Timer.l1 k a1_0_0 a1_1_0 l0 m l869 l873 (i875 : Int) = timer_parted_Timer.r1 k a1_0_0 a1_1_0 l0 (l0.drop i875) l869 l873 := by
  intro m
  induction m with
  | zero => intro i875 l869 l873 h hi; omega
  | succ m ih =>
    intro i875 l869 l873 h hi
    by_cases hc : i875 < l0.length
    · have hw : wrap64 ((i875 : Int) + 1) = ((i875 + 1 : Nat) : Int) := by unfold wrap64; omega
      have hg : l0[(i875 : Int).toNat]? = some l0[i875] := by rw [Int.toNat_natCast]; exact List.getElem?_eq_getElem hc
      have ih2 := fun l869 l873 => ih (i875 + 1) l869 l873 (by omega) (by omega)
      rw [List.drop_eq_getElem_cons hc, timer_parted_Timer.l1, timer_parted_Timer.r1, if_pos (by omega), if_pos (by omega), hg, Option.bind_some]
      simp only [hw, ih2]
    · rw [List.drop_of_length_le (by omega), timer_parted_Timer.l1, timer_parted_Timer.r1, if_neg (by omega)]
-- slices_BinarySearchFunc_api_Timer_api_Timer_api_Timer.l1: another shape
def timer_parted_Timer_s17.r1 (k : Nat) (a1_0_0 : Int) (l0 : List S23) : List S23 → (List S23) → (List S23) → Option (List S23 × List S23)
  | [], l1287, l1291 => (some (l1287, l1291))
  | x1355 :: xsi1293, l1287, l1291 => ((timer_Due_1.f x1355.f0 x1355.f1 x1355.f2 a1_0_0).bind fun t1359 => (if t1359 = true then (if (l1287.length + ([x1355] : List S23).length) * 24 ≤ 140737488355328 then (timer_parted_Timer_s17.r1 k a1_0_0 l0 xsi1293 (l1287 ++ ([x1355] : List S23)) l1291) else none) else (if (l1291.length + ([x1355] : List S23).length) * 24 ≤ 140737488355328 then (timer_parted_Timer_s17.r1 k a1_0_0 l0 xsi1293 l1287 (l1291 ++ ([x1355] : List S23))) else none)))
set_option maxHeartbeats 1000000 in
theorem timer_parted_Timer_s17.r1_eq (k : Nat) (a1_0_0 : Int) (l0 : List S23)  (hs : l0.length < 4611686018427387904) : ∀ (m i1293 : Nat) (l1287 : List S23) (l1291 : List S23), l0.length < m + i1293 → i1293 ≤ l0.length → timer_parted_Timer_s17.l1 k a1_0_0 l0 m l1287 l1291 (i1293 : Int) = timer_parted_Timer_s17.r1 k a1_0_0 l0 (l0.drop i1293) l1287 l1291 := by
  intro m
  induction m with
  | zero => intro i1293 l1287 l1291 h hi; omega
  | succ m ih =>
    intro i1293 l1287 l1291 h hi
    by_cases hc : i1293 < l0.length
    · have hw : wrap64 ((i1293 : Int) + 1) = ((i1293 + 1 : Nat) : Int) := by unfold wrap64; omega
      have hg : l0[(i1293 : Int).toNat]? = some l0[i1293] := by rw [Int.toNat_natCast]; exact List.getElem?_eq_getElem hc
      have ih2 := fun l1287 l1291 => ih (i1293 + 1) l1287 l1291 (by omega) (by omega)
      rw [List.drop_eq_getElem_cons hc, timer_parted_Timer_s17.l1, timer_parted_Timer_s17.r1, if_pos (by omega), if_pos (by omega), hg, Option.bind_some]
      simp only [hw, ih2]
    · rw [List.drop_of_length_le (by omega), timer_parted_Timer_s17.l1, timer_parted_Timer_s17.r1, if_neg (by omega)]
def tarryref10_Right.r5 (k : Nat) (rec_l3 : Option (Bool)) (i2550 : Int) (l0 : List S23) (x2967 : S23) : List S23 → Option (Bool)
  | [] => rec_l3
  | x3085 :: xsi3023 => ((tarryref10_Less.f x3085.f0 x3085.f1 x3085.f2 x2967.f0 x2967.f1 x2967.f2).bind fun t3095 => (if t3095 = true then (if x3085.f1 = x2967.f1 then (if x3085.f2 = x2967.f2 then (some false) else (tarryref10_Right.r5 k rec_l3 i2550 l0 x2967 xsi3023)) else (tarryref10_Right.r5 k rec_l3 i2550 l0 x2967 xsi3023)) else (some false)))
set_option maxHeartbeats 1000000 in
theorem tarryref10_Right.r5_eq (k : Nat) (rec_l3 : Int → Option (Bool)) (i2550 : Int) (l0 : List S23) (x2967 : S23)  (hs : ((l0.take i2550.toNat).drop 0).length < 4611686018427387904) : ∀ (m i3023 : Nat), ((l0.take i2550.toNat).drop 0).length < m + i3023 → i3023 ≤ ((l0.take i2550.toNat).drop 0).length → tarryref10_Right.l5 k rec_l3 i2550 l0 x2967 m (i3023 : Int) = tarryref10_Right.r5 k (rec_l3 (wrap64 (i2550 + 1))) i2550 l0 x2967 (((l0.take i2550.toNat).drop 0).drop i3023) := by
  intro m
  induction m with
  | zero => intro i3023 h hi; omega
  | succ m ih =>
    intro i3023 h hi
    by_cases hc : i3023 < ((l0.take i2550.toNat).drop 0).length
    · have hw : wrap64 ((i3023 : Int) + 1) = ((i3023 + 1 : Nat) : Int) := by unfold wrap64; omega
      have hg : ((l0.take i2550.toNat).drop 0)[(i3023 : Int).toNat]? = some ((l0.take i2550.toNat).drop 0)[i3023] := by rw [Int.toNat_natCast]; exact List.getElem?_eq_getElem hc
      have ih2 := ih (i3023 + 1) (by omega) (by omega)
      rw [List.drop_eq_getElem_cons hc, tarryref10_Right.l5, tarryref10_Right.r5, if_pos (by omega), if_pos (by omega), hg, Option.bind_some]
      simp only [hw, ih2]
    · rw [List.drop_of_length_le (by omega), tarryref10_Right.l5, tarryref10_Right.r5, if_neg (by omega)]
      try simp only [Int.natCast_zero]
def tarryref10_Right.r3 (k : Nat) (l0 : List S23) : List S23 → Nat → Option (Bool)
  | [], i2550 => (some (decide ((l0.length : Int) ≤ 96)))
  | x2967 :: xsi2550, i2550 => ((tarryref10_May.f x2967.f0 x2967.f1 x2967.f2).bind fun t2980 => (if t2980 = true then (if (i2550 : Int) ≤ (l0.length : Int) then (tarryref10_Right.r5 k (tarryref10_Right.r3 k l0 xsi2550 (i2550 + 1)) (i2550 : Int) l0 x2967 ((l0.take (i2550 : Int).toNat).drop 0)) else none) else (some false)))
set_option maxHeartbeats 1000000 in
theorem tarryref10_Right.r3_eq (k : Nat) (l0 : List S23) (hl5_0 : ∀ i2550 : Nat, ((l0.take (i2550 : Int).toNat).drop 0).length < k ∧ ((l0.take (i2550 : Int).toNat).drop 0).length < 4611686018427387904) (hs : l0.length < 4611686018427387904) : ∀ (m i2550 : Nat), l0.length < m + i2550 → i2550 ≤ l0.length → tarryref10_Right.l3 k l0 m (i2550 : Int) = tarryref10_Right.r3 k l0 (l0.drop i2550) i2550 := by
  intro m
  induction m with
  | zero => intro i2550 h hi; omega
  | succ m ih =>
    intro i2550 h hi
    by_cases hc : i2550 < l0.length
    · have hw : wrap64 ((i2550 : Int) + 1) = ((i2550 + 1 : Nat) : Int) := by unfold wrap64; omega
      have hg : l0[(i2550 : Int).toNat]? = some l0[i2550] := by rw [Int.toNat_natCast]; exact List.getElem?_eq_getElem hc
      have ih2 := ih (i2550 + 1) (by omega) (by omega)
      rw [List.drop_eq_getElem_cons hc, tarryref10_Right.l3, tarryref10_Right.r3, if_pos (by omega), if_pos (by omega), hg, Option.bind_some]
      have el5 : ∀ (rec_l3 : Int → Option (Bool)) (x2967 : S23), tarryref10_Right.l5 k rec_l3 (i2550 : Int) l0 x2967 k 0 = tarryref10_Right.r5 k (rec_l3 (wrap64 ((i2550 : Int) + 1))) (i2550 : Int) l0 x2967 ((l0.take (i2550 : Int).toNat).drop 0) := fun rec_l3 x2967 => tarryref10_Right.r5_eq k rec_l3 (i2550 : Int) l0 x2967 (hl5_0 i2550).2 k 0 (by have := (hl5_0 i2550).1; omega) (Nat.zero_le _)
      simp only [el5, hw, ih2]
    · rw [List.drop_of_length_le (by omega), tarryref10_Right.l3, tarryref10_Right.r3, if_neg (by omega)]
def tarryref10_Clear.r1 (k : Nat) (a1 : Int) (a2 : Int) (l0 : List S23) : List S23 → (List S23) → Option (List S23)
  | [], l3396 => (some l3396)
  | x3471 :: xsi3397, l3396 => (if x3471.f1 = a1 then (if x3471.f2 = a2 then (tarryref10_Clear.r1 k a1 a2 l0 xsi3397 l3396) else (if (l3396.length + ([x3471] : List S23).length) * 24 ≤ 140737488355328 then (tarryref10_Clear.r1 k a1 a2 l0 xsi3397 (l3396 ++ ([x3471] : List S23))) else none)) else (if (l3396.length + ([x3471] : List S23).length) * 24 ≤ 140737488355328 then (tarryref10_Clear.r1 k a1 a2 l0 xsi3397 (l3396 ++ ([x3471] : List S23))) else none))
set_option maxHeartbeats 1000000 in
theorem tarryref10_Clear.r1_eq (k : Nat) (a1 : Int) (a2 : Int) (l0 : List S23)  (hs : l0.length < 4611686018427387904) : ∀ (m i3397 : Nat) (l3396 : List S23), l0.length < m + i3397 → i3397 ≤ l0.length → tarryref10_Clear.l1 k a1 a2 l0 m l3396 (i3397 : Int) = tarryref10_Clear.r1 k a1 a2 l0 (l0.drop i3397) l3396 := by
  intro m
  induction m with
  | zero => intro i3397 l3396 h hi; omega
  | succ m ih =>
    intro i3397 l3396 h hi
    by_cases hc : i3397 < l0.length
    · have hw : wrap64 ((i3397 : Int) + 1) = ((i3397 + 1 : Nat) : Int) := by unfold wrap64; omega
      have hg : l0[(i3397 : Int).toNat]? = some l0[i3397] := by rw [Int.toNat_natCast]; exact List.getElem?_eq_getElem hc
      have ih2 := fun l3396 => ih (i3397 + 1) l3396 (by omega) (by omega)
      rw [List.drop_eq_getElem_cons hc, tarryref10_Clear.l1, tarryref10_Clear.r1, if_pos (by omega), if_pos (by omega), hg, Option.bind_some]
      simp only [hw, ih2]
    · rw [List.drop_of_length_le (by omega), tarryref10_Clear.l1, tarryref10_Clear.r1, if_neg (by omega)]
def tarryref10_Same.r1 (k : Nat) (l0 : List S23) (l1 : List S23) : List S23 → Nat → Option (Bool)
  | [], i3555 => (some true)
  | x3578 :: xsi3555, i3555 => ((l1[(i3555 : Int).toNat]?).bind fun x3579 => (if (((x3578.f0 == x3579.f0) && ((x3578.f1 == x3579.f1) && (x3578.f2 == x3579.f2)))) = true then (tarryref10_Same.r1 k l0 l1 xsi3555 (i3555 + 1)) else (some false)))
set_option maxHeartbeats 1000000 in
theorem tarryref10_Same.r1_eq (k : Nat) (l0 : List S23) (l1 : List S23)  (hs : l0.length < 4611686018427387904) : ∀ (m i3555 : Nat), l0.length < m + i3555 → i3555 ≤ l0.length → tarryref10_Same.l1 k l0 l1 m (i3555 : Int) = tarryref10_Same.r1 k l0 l1 (l0.drop i3555) i3555 := by
  intro m
  induction m with
  | zero => intro i3555 h hi; omega
  | succ m ih =>
    intro i3555 h hi
    by_cases hc : i3555 < l0.length
    · have hw : wrap64 ((i3555 : Int) + 1) = ((i3555 + 1 : Nat) : Int) := by unfold wrap64; omega
      have hg : l0[(i3555 : Int).toNat]? = some l0[i3555] := by rw [Int.toNat_natCast]; exact List.getElem?_eq_getElem hc
      have ih2 := ih (i3555 + 1) (by omega) (by omega)
      rw [List.drop_eq_getElem_cons hc, tarryref10_Same.l1, tarryref10_Same.r1, if_pos (by omega), if_pos (by omega), hg, Option.bind_some]
      simp only [hw, ih2]
    · rw [List.drop_of_length_le (by omega), tarryref10_Same.l1, tarryref10_Same.r1, if_neg (by omega)]
def tarryref10_Due.r1 (k : Nat) (a1 : Int) (a2 : Bool) (l0 : List S23) : List S23 → (List S23) → Option (List S23)
  | [], l3708 => (some l3708)
  | x3756 :: xsi3709, l3708 => (if (decide (x3756.f0 ≤ a1)) = a2 then (if (l3708.length + ([x3756] : List S23).length) * 24 ≤ 140737488355328 then (tarryref10_Due.r1 k a1 a2 l0 xsi3709 (l3708 ++ ([x3756] : List S23))) else none) else (tarryref10_Due.r1 k a1 a2 l0 xsi3709 l3708))
set_option maxHeartbeats 1000000 in
theorem tarryref10_Due.r1_eq (k : Nat) (a1 : Int) (a2 : Bool) (l0 : List S23)  (hs : l0.length < 4611686018427387904) : ∀ (m i3709 : Nat) (l3708 : List S23), l0.length < m + i3709 → i3709 ≤ l0.length → tarryref10_Due.l1 k a1 a2 l0 m l3708 (i3709 : Int) = tarryref10_Due.r1 k a1 a2 l0 (l0.drop i3709) l3708 := by
  intro m
  induction m with
  | zero => intro i3709 l3708 h hi; omega
  | succ m ih =>
    intro i3709 l3708 h hi
    by_cases hc : i3709 < l0.length
    · have hw : wrap64 ((i3709 : Int) + 1) = ((i3709 + 1 : Nat) : Int) := by unfold wrap64; omega
      have hg : l0[(i3709 : Int).toNat]? = some l0[i3709] := by rw [Int.toNat_natCast]; exact List.getElem?_eq_getElem hc
      have ih2 := fun l3708 => ih (i3709 + 1) l3708 (by omega) (by omega)
      rw [List.drop_eq_getElem_cons hc, tarryref10_Due.l1, tarryref10_Due.r1, if_pos (by omega), if_pos (by omega), hg, Option.bind_some]
      simp only [hw, ih2]
    · rw [List.drop_of_length_le (by omega), tarryref10_Due.l1, tarryref10_Due.r1, if_neg (by omega)]
def tarryref10_Set.r1 (k : Nat) (a1_0 : Int) (a1_1 : Int) (a1_2 : Int) (r4250 : List S23) : List S23 → (List S23) → Bool → Option (List S23)
  | [], l4327, q4328 => (if q4328 = true then (some l4327) else (if (l4327.length + ([(⟨a1_0, a1_1, a1_2⟩ : S23)] : List S23).length) * 24 ≤ 140737488355328 then (some (l4327 ++ ([(⟨a1_0, a1_1, a1_2⟩ : S23)] : List S23))) else none))
  | x4483 :: xsi4329, l4327, q4328 => (if q4328 = true then (if (l4327.length + ([x4483] : List S23).length) * 24 ≤ 140737488355328 then (tarryref10_Set.r1 k a1_0 a1_1 a1_2 r4250 xsi4329 (l4327 ++ ([x4483] : List S23)) true) else none) else ((tarryref10_Less.f a1_0 a1_1 a1_2 x4483.f0 x4483.f1 x4483.f2).bind fun t4508 => (if t4508 = true then (if (l4327.length + ([(⟨a1_0, a1_1, a1_2⟩ : S23)] : List S23).length) * 24 ≤ 140737488355328 then (if ((l4327 ++ ([(⟨a1_0, a1_1, a1_2⟩ : S23)] : List S23)).length + ([x4483] : List S23).length) * 24 ≤ 140737488355328 then (tarryref10_Set.r1 k a1_0 a1_1 a1_2 r4250 xsi4329 ((l4327 ++ ([(⟨a1_0, a1_1, a1_2⟩ : S23)] : List S23)) ++ ([x4483] : List S23)) true) else none) else none) else (if (l4327.length + ([x4483] : List S23).length) * 24 ≤ 140737488355328 then (tarryref10_Set.r1 k a1_0 a1_1 a1_2 r4250 xsi4329 (l4327 ++ ([x4483] : List S23)) false) else none))))
set_option maxHeartbeats 1000000 in
theorem tarryref10_Set.r1_eq (k : Nat) (a1_0 : Int) (a1_1 : Int) (a1_2 : Int) (r4250 : List S23)  (hs : r4250.length < 4611686018427387904) : ∀ (m i4329 : Nat) (l4327 : List S23) (q4328 : Bool), r4250.length < m + i4329 → i4329 ≤ r4250.length → tarryref10_Set.l1 k a1_0 a1_1 a1_2 r4250 m l4327 q4328 (i4329 : Int) = tarryref10_Set.r1 k a1_0 a1_1 a1_2 r4250 (r4250.drop i4329) l4327 q4328 := by
  intro m
  induction m with
  | zero => intro i4329 l4327 q4328 h hi; omega
  | succ m ih =>
    intro i4329 l4327 q4328 h hi
    by_cases hc : i4329 < r4250.length
    · have hw : wrap64 ((i4329 : Int) + 1) = ((i4329 + 1 : Nat) : Int) := by unfold wrap64; omega
      have hg : r4250[(i4329 : Int).toNat]? = some r4250[i4329] := by rw [Int.toNat_natCast]; exact List.getElem?_eq_getElem hc
      have ih2 := fun l4327 q4328 => ih (i4329 + 1) l4327 q4328 (by omega) (by omega)
      rw [List.drop_eq_getElem_cons hc, tarryref10_Set.l1, tarryref10_Set.r1, if_pos (by omega), if_pos (by omega), hg, Option.bind_some]
      simp only [hw, ih2]
    · rw [List.drop_of_length_le (by omega), tarryref10_Set.l1, tarryref10_Set.r1, if_neg (by omega)]

end Go.Proofs.Ytmcfgahjchkgaaa.PTimerSets
