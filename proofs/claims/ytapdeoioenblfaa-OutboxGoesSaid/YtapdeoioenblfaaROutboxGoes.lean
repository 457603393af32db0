/- Written by a program of this repo: what the program's functions do, each as a Lean function, shown of the loaded code; or a statement's row over that; no condition of its own. -/
import Derived.Test.YtapdeoioenblfaaPOutboxGoesx0
namespace Go.Proofs.Ytapdeoioenblfaa.POutboxGoes
open Go Go.RowKit Go.Proofs.YtapdeoioenblfaaV
set_option linter.unusedVariables false
set_option linter.unusedSimpArgs false

def slices_IndexFunc_api_Out_api_Out.r1 (k : Nat) (a1_0_0 : Int) (a1_1_0 : Int) (l0 : List S33) : List S33 → Nat → Option (Int)
  | [], i162 => (some (-1))
  | x191 :: xsi162, i162 => ((outbox_of_1.f x191.f0 x191.f1 x191.f2 x191.f3 a1_0_0 a1_1_0).bind fun t194 => (if t194 = true then (some (i162 : Int)) else (slices_IndexFunc_api_Out_api_Out.r1 k a1_0_0 a1_1_0 l0 xsi162 (i162 + 1))))
set_option maxHeartbeats 1000000 in
theorem slices_IndexFunc_api_Out_api_Out.r1_eq (k : Nat) (a1_0_0 : Int) (a1_1_0 : Int) (l0 : List S33)  (hs : l0.length < 4611686018427387904) : ∀ (m i162 : Nat), l0.length < m + i162 → i162 ≤ l0.length → slices_IndexFunc_api_Out_api_Out.l1 k a1_0_0 a1_1_0 l0 m (i162 : Int) = slices_IndexFunc_api_Out_api_Out.r1 k a1_0_0 a1_1_0 l0 (l0.drop i162) i162 := by
  intro m
  induction m with
  | zero => intro i162 h hi; omega
  | succ m ih =>
    intro i162 h hi
    by_cases hc : i162 < l0.length
    · have hw : wrap64 ((i162 : Int) + 1) = ((i162 + 1 : Nat) : Int) := by unfold wrap64; omega
      have hg : l0[(i162 : Int).toNat]? = some l0[i162] := by rw [Int.toNat_natCast]; exact List.getElem?_eq_getElem hc
      have ih2 := ih (i162 + 1) (by omega) (by omega)
      rw [List.drop_eq_getElem_cons hc, slices_IndexFunc_api_Out_api_Out.l1, slices_IndexFunc_api_Out_api_Out.r1, if_pos (by omega), if_pos (by omega), hg, Option.bind_some]
      simp only [hw, ih2]
    · rw [List.drop_of_length_le (by omega), slices_IndexFunc_api_Out_api_Out.l1, slices_IndexFunc_api_Out_api_Out.r1, if_neg (by omega)]
def outbox_Right.r1 (k : Nat) (a0_0 : Int) (l0_1 : List S33) : List S33 → Nat → Int → Option (Bool)
  | [], i581, i580 => (if (l0_1.length : Int) ≤ 96 then ((outbox_time.f a0_0).bind fun t812 => (if t812 = true then (some (decide (i580 ≤ a0_0))) else (some false))) else (some false))
  | x754 :: xsi581, i581, i580 => ((outbox_number.f x754.f0).bind fun t769 => (if t769 = true then ((outbox_number.f x754.f2).bind fun t772 => (if t772 = true then ((outbox_kinds.f x754.f1).bind fun t775 => (if t775 = true then ((outbox_time.f x754.f3).bind fun t778 => (if t778 = true then (if x754.f0 ≤ i580 then (some false) else ((outbox_of.f x754.f1 x754.f2).bind fun ⟨t795, t796⟩ => ((outbox_where_Out.f k l0_1 t795 t796).bind fun t800 => (if t800 = (i581 : Int) then (outbox_Right.r1 k a0_0 l0_1 xsi581 (i581 + 1) x754.f0) else (some false))))) else (some false))) else (some false))) else (some false))) else (some false)))
set_option maxHeartbeats 1000000 in
theorem outbox_Right.r1_eq (k : Nat) (a0_0 : Int) (l0_1 : List S33)  (hs : l0_1.length < 4611686018427387904) : ∀ (m i581 : Nat) (i580 : Int), l0_1.length < m + i581 → i581 ≤ l0_1.length → outbox_Right.l1 k a0_0 l0_1 m i580 (i581 : Int) = outbox_Right.r1 k a0_0 l0_1 (l0_1.drop i581) i581 i580 := by
  intro m
  induction m with
  | zero => intro i581 i580 h hi; omega
  | succ m ih =>
    intro i581 i580 h hi
    by_cases hc : i581 < l0_1.length
    · have hw : wrap64 ((i581 : Int) + 1) = ((i581 + 1 : Nat) : Int) := by unfold wrap64; omega
      have hg : l0_1[(i581 : Int).toNat]? = some l0_1[i581] := by rw [Int.toNat_natCast]; exact List.getElem?_eq_getElem hc
      have ih2 := fun i580 => ih (i581 + 1) i580 (by omega) (by omega)
      rw [List.drop_eq_getElem_cons hc, outbox_Right.l1, outbox_Right.r1, if_pos (by omega), if_pos (by omega), hg, Option.bind_some]
      simp only [hw, ih2]
    · rw [List.drop_of_length_le (by omega), outbox_Right.l1, outbox_Right.r1, if_neg (by omega)]
def slices_IndexFunc_api_Out_api_Out_s11.r1 (k : Nat) (a1_0_0 : Int) (l0 : List S33) : List S33 → Nat → Option (Int)
  | [], i1116 => (some (-1))
  | x1145 :: xsi1116, i1116 => ((outbox_Done_1.f x1145.f0 x1145.f1 x1145.f2 x1145.f3 a1_0_0).bind fun t1148 => (if t1148 = true then (some (i1116 : Int)) else (slices_IndexFunc_api_Out_api_Out_s11.r1 k a1_0_0 l0 xsi1116 (i1116 + 1))))
set_option maxHeartbeats 1000000 in
theorem slices_IndexFunc_api_Out_api_Out_s11.r1_eq (k : Nat) (a1_0_0 : Int) (l0 : List S33)  (hs : l0.length < 4611686018427387904) : ∀ (m i1116 : Nat), l0.length < m + i1116 → i1116 ≤ l0.length → slices_IndexFunc_api_Out_api_Out_s11.l1 k a1_0_0 l0 m (i1116 : Int) = slices_IndexFunc_api_Out_api_Out_s11.r1 k a1_0_0 l0 (l0.drop i1116) i1116 := by
  intro m
  induction m with
  | zero => intro i1116 h hi; omega
  | succ m ih =>
    intro i1116 h hi
    by_cases hc : i1116 < l0.length
    · have hw : wrap64 ((i1116 : Int) + 1) = ((i1116 + 1 : Nat) : Int) := by unfold wrap64; omega
      have hg : l0[(i1116 : Int).toNat]? = some l0[i1116] := by rw [Int.toNat_natCast]; exact List.getElem?_eq_getElem hc
      have ih2 := ih (i1116 + 1) (by omega) (by omega)
      rw [List.drop_eq_getElem_cons hc, slices_IndexFunc_api_Out_api_Out_s11.l1, slices_IndexFunc_api_Out_api_Out_s11.r1, if_pos (by omega), if_pos (by omega), hg, Option.bind_some]
      simp only [hw, ih2]
    · rw [List.drop_of_length_le (by omega), slices_IndexFunc_api_Out_api_Out_s11.l1, slices_IndexFunc_api_Out_api_Out_s11.r1, if_neg (by omega)]
def outbox_Tell.r0 (k : Nat) (a0_0 : Int) (a1 : Int) (r1268 : List S33) (t1269 : Int) : List S33 → Nat → (List S33) → (List S33) → Option (Int × List S33 × List S33 × Int)
  | [], i1345, l1348, l1352 => (some (a0_0, l1352, l1348, 0))
  | x1453 :: xsi1345, i1345, l1348, l1352 => (if x1453.f3 ≤ t1269 then (if (l1348.length + ([x1453] : List S33).length) * 32 ≤ 140737488355328 then ((l1352[(i1345 : Int).toNat]?).bind fun x1478 => (outbox_Tell.r0 k a0_0 a1 r1268 t1269 xsi1345 (i1345 + 1) (l1348 ++ ([x1453] : List S33)) (l1352.set (i1345 : Int).toNat (⟨x1478.f0, x1478.f1, x1478.f2, mn (wrap64 (a1 + 10)) 1099511627776⟩ : S33)))) else none) else (outbox_Tell.r0 k a0_0 a1 r1268 t1269 xsi1345 (i1345 + 1) l1348 l1352))
set_option maxHeartbeats 1000000 in
theorem outbox_Tell.r0_eq (k : Nat) (a0_0 : Int) (a1 : Int) (r1268 : List S33) (t1269 : Int)  (hs : r1268.length < 4611686018427387904) : ∀ (m i1345 : Nat) (l1348 : List S33) (l1352 : List S33), r1268.length < m + i1345 → i1345 ≤ r1268.length → outbox_Tell.l0 k a0_0 a1 r1268 t1269 m (i1345 : Int) l1348 l1352 = outbox_Tell.r0 k a0_0 a1 r1268 t1269 (r1268.drop i1345) i1345 l1348 l1352 := by
  intro m
  induction m with
  | zero => intro i1345 l1348 l1352 h hi; omega
  | succ m ih =>
    intro i1345 l1348 l1352 h hi
    by_cases hc : i1345 < r1268.length
    · have hw : wrap64 ((i1345 : Int) + 1) = ((i1345 + 1 : Nat) : Int) := by unfold wrap64; omega
      have hg : r1268[(i1345 : Int).toNat]? = some r1268[i1345] := by rw [Int.toNat_natCast]; exact List.getElem?_eq_getElem hc
      have ih2 := fun l1348 l1352 => ih (i1345 + 1) l1348 l1352 (by omega) (by omega)
      rw [List.drop_eq_getElem_cons hc, outbox_Tell.l0, outbox_Tell.r0, if_pos (by omega), if_pos (by omega), hg, Option.bind_some]
      simp only [hw, ih2]
    · rw [List.drop_of_length_le (by omega), outbox_Tell.l0, outbox_Tell.r0, if_neg (by omega)]
def tarryref14_Right.r5 (k : Nat) (rec_l3 : Option (Bool)) (i2878 : Int) (l0_1 : List S33) (x3404 : S33) : List S33 → Option (Bool)
  | [] => rec_l3
  | x3558 :: xsi3502 => (if x3558.f0 ≥ x3404.f0 then (some false) else (if x3558.f1 = x3404.f1 then (if x3558.f2 = x3404.f2 then (some false) else (tarryref14_Right.r5 k rec_l3 i2878 l0_1 x3404 xsi3502)) else (tarryref14_Right.r5 k rec_l3 i2878 l0_1 x3404 xsi3502)))
set_option maxHeartbeats 1000000 in
theorem tarryref14_Right.r5_eq (k : Nat) (rec_l3 : Int → Option (Bool)) (i2878 : Int) (l0_1 : List S33) (x3404 : S33)  (hs : ((l0_1.take i2878.toNat).drop 0).length < 4611686018427387904) : ∀ (m i3502 : Nat), ((l0_1.take i2878.toNat).drop 0).length < m + i3502 → i3502 ≤ ((l0_1.take i2878.toNat).drop 0).length → tarryref14_Right.l5 k rec_l3 i2878 l0_1 x3404 m (i3502 : Int) = tarryref14_Right.r5 k (rec_l3 (wrap64 (i2878 + 1))) i2878 l0_1 x3404 (((l0_1.take i2878.toNat).drop 0).drop i3502) := by
  intro m
  induction m with
  | zero => intro i3502 h hi; omega
  | succ m ih =>
    intro i3502 h hi
    by_cases hc : i3502 < ((l0_1.take i2878.toNat).drop 0).length
    · have hw : wrap64 ((i3502 : Int) + 1) = ((i3502 + 1 : Nat) : Int) := by unfold wrap64; omega
      have hg : ((l0_1.take i2878.toNat).drop 0)[(i3502 : Int).toNat]? = some ((l0_1.take i2878.toNat).drop 0)[i3502] := by rw [Int.toNat_natCast]; exact List.getElem?_eq_getElem hc
      have ih2 := ih (i3502 + 1) (by omega) (by omega)
      rw [List.drop_eq_getElem_cons hc, tarryref14_Right.l5, tarryref14_Right.r5, if_pos (by omega), if_pos (by omega), hg, Option.bind_some]
      simp only [hw, ih2]
    · rw [List.drop_of_length_le (by omega), tarryref14_Right.l5, tarryref14_Right.r5, if_neg (by omega)]
      try simp only [Int.natCast_zero]
def tarryref14_Right.r3 (k : Nat) (a0_0 : Int) (l0_1 : List S33) : List S33 → Nat → Option (Bool)
  | [], i2878 => (if (l0_1.length : Int) ≤ 96 then ((tarryref14_in.f a0_0 0).bind fun t3579 => (some t3579)) else (some false))
  | x3404 :: xsi2878, i2878 => ((tarryref14_in.f x3404.f0 1).bind fun t3451 => (if t3451 = true then ((tarryref14_in.f x3404.f2 1).bind fun t3454 => (if t3454 = true then (if x3404.f1 < 1 then (some false) else (if x3404.f1 > 3 then (some false) else ((tarryref14_in.f x3404.f3 0).bind fun t3461 => (if t3461 = true then (if x3404.f0 > a0_0 then (some false) else (if (i2878 : Int) ≤ (l0_1.length : Int) then (tarryref14_Right.r5 k (tarryref14_Right.r3 k a0_0 l0_1 xsi2878 (i2878 + 1)) (i2878 : Int) l0_1 x3404 ((l0_1.take (i2878 : Int).toNat).drop 0)) else none)) else (some false))))) else (some false))) else (some false)))
set_option maxHeartbeats 1000000 in
theorem tarryref14_Right.r3_eq (k : Nat) (a0_0 : Int) (l0_1 : List S33) (hl5_0 : ∀ i2878 : Nat, ((l0_1.take (i2878 : Int).toNat).drop 0).length < k ∧ ((l0_1.take (i2878 : Int).toNat).drop 0).length < 4611686018427387904) (hs : l0_1.length < 4611686018427387904) : ∀ (m i2878 : Nat), l0_1.length < m + i2878 → i2878 ≤ l0_1.length → tarryref14_Right.l3 k a0_0 l0_1 m (i2878 : Int) = tarryref14_Right.r3 k a0_0 l0_1 (l0_1.drop i2878) i2878 := by
  intro m
  induction m with
  | zero => intro i2878 h hi; omega
  | succ m ih =>
    intro i2878 h hi
    by_cases hc : i2878 < l0_1.length
    · have hw : wrap64 ((i2878 : Int) + 1) = ((i2878 + 1 : Nat) : Int) := by unfold wrap64; omega
      have hg : l0_1[(i2878 : Int).toNat]? = some l0_1[i2878] := by rw [Int.toNat_natCast]; exact List.getElem?_eq_getElem hc
      have ih2 := ih (i2878 + 1) (by omega) (by omega)
      rw [List.drop_eq_getElem_cons hc, tarryref14_Right.l3, tarryref14_Right.r3, if_pos (by omega), if_pos (by omega), hg, Option.bind_some]
      have el5 : ∀ (rec_l3 : Int → Option (Bool)) (x3404 : S33), tarryref14_Right.l5 k rec_l3 (i2878 : Int) l0_1 x3404 k 0 = tarryref14_Right.r5 k (rec_l3 (wrap64 ((i2878 : Int) + 1))) (i2878 : Int) l0_1 x3404 ((l0_1.take (i2878 : Int).toNat).drop 0) := fun rec_l3 x3404 => tarryref14_Right.r5_eq k rec_l3 (i2878 : Int) l0_1 x3404 (hl5_0 i2878).2 k 0 (by have := (hl5_0 i2878).1; omega) (Nat.zero_le _)
      simp only [el5, hw, ih2]
    · rw [List.drop_of_length_le (by omega), tarryref14_Right.l3, tarryref14_Right.r3, if_neg (by omega)]
def tarryref14_Find.r1 (k : Nat) (a1 : Int) (a2 : Int) (l0_1 : List S33) : List S33 → Option (Int × Int × Int × Int)
  | [] => (some (0, 0, 0, 0))
  | x3792 :: xsi3748 => (if x3792.f1 = a1 then (if x3792.f2 = a2 then (some (x3792.f0, x3792.f1, x3792.f2, x3792.f3)) else (tarryref14_Find.r1 k a1 a2 l0_1 xsi3748)) else (tarryref14_Find.r1 k a1 a2 l0_1 xsi3748))
set_option maxHeartbeats 1000000 in
theorem tarryref14_Find.r1_eq (k : Nat) (a1 : Int) (a2 : Int) (l0_1 : List S33)  (hs : l0_1.length < 4611686018427387904) : ∀ (m i3748 : Nat), l0_1.length < m + i3748 → i3748 ≤ l0_1.length → tarryref14_Find.l1 k a1 a2 l0_1 m (i3748 : Int) = tarryref14_Find.r1 k a1 a2 l0_1 (l0_1.drop i3748) := by
  intro m
  induction m with
  | zero => intro i3748 h hi; omega
  | succ m ih =>
    intro i3748 h hi
    by_cases hc : i3748 < l0_1.length
    · have hw : wrap64 ((i3748 : Int) + 1) = ((i3748 + 1 : Nat) : Int) := by unfold wrap64; omega
      have hg : l0_1[(i3748 : Int).toNat]? = some l0_1[i3748] := by rw [Int.toNat_natCast]; exact List.getElem?_eq_getElem hc
      have ih2 := ih (i3748 + 1) (by omega) (by omega)
      rw [List.drop_eq_getElem_cons hc, tarryref14_Find.l1, tarryref14_Find.r1, if_pos (by omega), if_pos (by omega), hg, Option.bind_some]
      simp only [hw, ih2]
    · rw [List.drop_of_length_le (by omega), tarryref14_Find.l1, tarryref14_Find.r1, if_neg (by omega)]
def tarryref14_Same.r1 (k : Nat) (l0 : List S33) (l1 : List S33) : List S33 → Nat → Option (Bool)
  | [], i3933 => (some true)
  | x3956 :: xsi3933, i3933 => ((l1[(i3933 : Int).toNat]?).bind fun x3957 => (if (((x3956.f0 == x3957.f0) && ((x3956.f1 == x3957.f1) && ((x3956.f2 == x3957.f2) && (x3956.f3 == x3957.f3))))) = true then (tarryref14_Same.r1 k l0 l1 xsi3933 (i3933 + 1)) else (some false)))
set_option maxHeartbeats 1000000 in
theorem tarryref14_Same.r1_eq (k : Nat) (l0 : List S33) (l1 : List S33)  (hs : l0.length < 4611686018427387904) : ∀ (m i3933 : Nat), l0.length < m + i3933 → i3933 ≤ l0.length → tarryref14_Same.l1 k l0 l1 m (i3933 : Int) = tarryref14_Same.r1 k l0 l1 (l0.drop i3933) i3933 := by
  intro m
  induction m with
  | zero => intro i3933 h hi; omega
  | succ m ih =>
    intro i3933 h hi
    by_cases hc : i3933 < l0.length
    · have hw : wrap64 ((i3933 : Int) + 1) = ((i3933 + 1 : Nat) : Int) := by unfold wrap64; omega
      have hg : l0[(i3933 : Int).toNat]? = some l0[i3933] := by rw [Int.toNat_natCast]; exact List.getElem?_eq_getElem hc
      have ih2 := ih (i3933 + 1) (by omega) (by omega)
      rw [List.drop_eq_getElem_cons hc, tarryref14_Same.l1, tarryref14_Same.r1, if_pos (by omega), if_pos (by omega), hg, Option.bind_some]
      simp only [hw, ih2]
    · rw [List.drop_of_length_le (by omega), tarryref14_Same.l1, tarryref14_Same.r1, if_neg (by omega)]
def tarryref14_Tell.r1 (k : Nat) (a0_0 : Int) (a1 : Int) (l0_1 : List S33) : List S33 → (List S33) → Option (Int × List S33)
  | [], l4358 => (some (a0_0, l4358))
  | x4424 :: xsi4355, l4358 => (if x4424.f3 ≤ a1 then (if (l4358.length + ([(⟨x4424.f0, x4424.f1, x4424.f2, 1099511627776⟩ : S33)] : List S33).length) * 32 ≤ 140737488355328 then (tarryref14_Tell.r1 k a0_0 a1 l0_1 xsi4355 (l4358 ++ ([(⟨x4424.f0, x4424.f1, x4424.f2, 1099511627776⟩ : S33)] : List S33))) else none) else (if (l4358.length + ([x4424] : List S33).length) * 32 ≤ 140737488355328 then (tarryref14_Tell.r1 k a0_0 a1 l0_1 xsi4355 (l4358 ++ ([x4424] : List S33))) else none))
set_option maxHeartbeats 1000000 in
theorem tarryref14_Tell.r1_eq (k : Nat) (a0_0 : Int) (a1 : Int) (l0_1 : List S33)  (hs : l0_1.length < 4611686018427387904) : ∀ (m i4355 : Nat) (l4358 : List S33), l0_1.length < m + i4355 → i4355 ≤ l0_1.length → tarryref14_Tell.l1 k a0_0 a1 l0_1 m (i4355 : Int) l4358 = tarryref14_Tell.r1 k a0_0 a1 l0_1 (l0_1.drop i4355) l4358 := by
  intro m
  induction m with
  | zero => intro i4355 l4358 h hi; omega
  | succ m ih =>
    intro i4355 l4358 h hi
    by_cases hc : i4355 < l0_1.length
    · have hw : wrap64 ((i4355 : Int) + 1) = ((i4355 + 1 : Nat) : Int) := by unfold wrap64; omega
      have hg : l0_1[(i4355 : Int).toNat]? = some l0_1[i4355] := by rw [Int.toNat_natCast]; exact List.getElem?_eq_getElem hc
      have ih2 := fun l4358 => ih (i4355 + 1) l4358 (by omega) (by omega)
      rw [List.drop_eq_getElem_cons hc, tarryref14_Tell.l1, tarryref14_Tell.r1, if_pos (by omega), if_pos (by omega), hg, Option.bind_some]
      simp only [hw, ih2]
    · rw [List.drop_of_length_le (by omega), tarryref14_Tell.l1, tarryref14_Tell.r1, if_neg (by omega)]
def tarryref14_Tell.r3 (k : Nat) (a0_0 : Int) (a1 : Int) (l0_1 : List S33) : List S33 → (List S33) → Option (Int × List S33)
  | [], l4619 => (some (a0_0, l4619))
  | x4685 :: xsi4616, l4619 => (if x4685.f3 ≤ a1 then (if (l4619.length + ([(⟨x4685.f0, x4685.f1, x4685.f2, wrap64 (a1 + 10)⟩ : S33)] : List S33).length) * 32 ≤ 140737488355328 then (tarryref14_Tell.r3 k a0_0 a1 l0_1 xsi4616 (l4619 ++ ([(⟨x4685.f0, x4685.f1, x4685.f2, wrap64 (a1 + 10)⟩ : S33)] : List S33))) else none) else (if (l4619.length + ([x4685] : List S33).length) * 32 ≤ 140737488355328 then (tarryref14_Tell.r3 k a0_0 a1 l0_1 xsi4616 (l4619 ++ ([x4685] : List S33))) else none))
set_option maxHeartbeats 1000000 in
theorem tarryref14_Tell.r3_eq (k : Nat) (a0_0 : Int) (a1 : Int) (l0_1 : List S33)  (hs : l0_1.length < 4611686018427387904) : ∀ (m i4616 : Nat) (l4619 : List S33), l0_1.length < m + i4616 → i4616 ≤ l0_1.length → tarryref14_Tell.l3 k a0_0 a1 l0_1 m (i4616 : Int) l4619 = tarryref14_Tell.r3 k a0_0 a1 l0_1 (l0_1.drop i4616) l4619 := by
  intro m
  induction m with
  | zero => intro i4616 l4619 h hi; omega
  | succ m ih =>
    intro i4616 l4619 h hi
    by_cases hc : i4616 < l0_1.length
    · have hw : wrap64 ((i4616 : Int) + 1) = ((i4616 + 1 : Nat) : Int) := by unfold wrap64; omega
      have hg : l0_1[(i4616 : Int).toNat]? = some l0_1[i4616] := by rw [Int.toNat_natCast]; exact List.getElem?_eq_getElem hc
      have ih2 := fun l4619 => ih (i4616 + 1) l4619 (by omega) (by omega)
      rw [List.drop_eq_getElem_cons hc, tarryref14_Tell.l3, tarryref14_Tell.r3, if_pos (by omega), if_pos (by omega), hg, Option.bind_some]
      simp only [hw, ih2]
    · rw [List.drop_of_length_le (by omega), tarryref14_Tell.l3, tarryref14_Tell.r3, if_neg (by omega)]
def tarryref14_Told.r1 (k : Nat) (a1 : Int) (l0_1 : List S33) : List S33 → (List S33) → Option (List S33)
  | [], l4825 => (some l4825)
  | x4870 :: xsi4826, l4825 => (if x4870.f3 ≤ a1 then (if (l4825.length + ([x4870] : List S33).length) * 32 ≤ 140737488355328 then (tarryref14_Told.r1 k a1 l0_1 xsi4826 (l4825 ++ ([x4870] : List S33))) else none) else (tarryref14_Told.r1 k a1 l0_1 xsi4826 l4825))
set_option maxHeartbeats 1000000 in
theorem tarryref14_Told.r1_eq (k : Nat) (a1 : Int) (l0_1 : List S33)  (hs : l0_1.length < 4611686018427387904) : ∀ (m i4826 : Nat) (l4825 : List S33), l0_1.length < m + i4826 → i4826 ≤ l0_1.length → tarryref14_Told.l1 k a1 l0_1 m l4825 (i4826 : Int) = tarryref14_Told.r1 k a1 l0_1 (l0_1.drop i4826) l4825 := by
  intro m
  induction m with
  | zero => intro i4826 l4825 h hi; omega
  | succ m ih =>
    intro i4826 l4825 h hi
    by_cases hc : i4826 < l0_1.length
    · have hw : wrap64 ((i4826 : Int) + 1) = ((i4826 + 1 : Nat) : Int) := by unfold wrap64; omega
      have hg : l0_1[(i4826 : Int).toNat]? = some l0_1[i4826] := by rw [Int.toNat_natCast]; exact List.getElem?_eq_getElem hc
      have ih2 := fun l4825 => ih (i4826 + 1) l4825 (by omega) (by omega)
      rw [List.drop_eq_getElem_cons hc, tarryref14_Told.l1, tarryref14_Told.r1, if_pos (by omega), if_pos (by omega), hg, Option.bind_some]
      simp only [hw, ih2]
    · rw [List.drop_of_length_le (by omega), tarryref14_Told.l1, tarryref14_Told.r1, if_neg (by omega)]
def tarryref14_Get.r1 (k : Nat) (a1 : Int) (l0_1 : List S33) : List S33 → Option (Int × Int × Int × Int)
  | [] => (some (0, 0, 0, 0))
  | x5005 :: xsi4976 => (if x5005.f0 = a1 then (some (x5005.f0, x5005.f1, x5005.f2, x5005.f3)) else (tarryref14_Get.r1 k a1 l0_1 xsi4976))
set_option maxHeartbeats 1000000 in
theorem tarryref14_Get.r1_eq (k : Nat) (a1 : Int) (l0_1 : List S33)  (hs : l0_1.length < 4611686018427387904) : ∀ (m i4976 : Nat), l0_1.length < m + i4976 → i4976 ≤ l0_1.length → tarryref14_Get.l1 k a1 l0_1 m (i4976 : Int) = tarryref14_Get.r1 k a1 l0_1 (l0_1.drop i4976) := by
  intro m
  induction m with
  | zero => intro i4976 h hi; omega
  | succ m ih =>
    intro i4976 h hi
    by_cases hc : i4976 < l0_1.length
    · have hw : wrap64 ((i4976 : Int) + 1) = ((i4976 + 1 : Nat) : Int) := by unfold wrap64; omega
      have hg : l0_1[(i4976 : Int).toNat]? = some l0_1[i4976] := by rw [Int.toNat_natCast]; exact List.getElem?_eq_getElem hc
      have ih2 := ih (i4976 + 1) (by omega) (by omega)
      rw [List.drop_eq_getElem_cons hc, tarryref14_Get.l1, tarryref14_Get.r1, if_pos (by omega), if_pos (by omega), hg, Option.bind_some]
      simp only [hw, ih2]
    · rw [List.drop_of_length_le (by omega), tarryref14_Get.l1, tarryref14_Get.r1, if_neg (by omega)]
def tarryref14_Done.r1 (k : Nat) (a0_0 : Int) (a1 : Int) (l0_1 : List S33) : List S33 → (List S33) → Option (Int × List S33)
  | [], l5173 => (some (a0_0, l5173))
  | x5218 :: xsi5170, l5173 => (if x5218.f0 = a1 then (tarryref14_Done.r1 k a0_0 a1 l0_1 xsi5170 l5173) else (if (l5173.length + ([x5218] : List S33).length) * 32 ≤ 140737488355328 then (tarryref14_Done.r1 k a0_0 a1 l0_1 xsi5170 (l5173 ++ ([x5218] : List S33))) else none))
set_option maxHeartbeats 1000000 in
theorem tarryref14_Done.r1_eq (k : Nat) (a0_0 : Int) (a1 : Int) (l0_1 : List S33)  (hs : l0_1.length < 4611686018427387904) : ∀ (m i5170 : Nat) (l5173 : List S33), l0_1.length < m + i5170 → i5170 ≤ l0_1.length → tarryref14_Done.l1 k a0_0 a1 l0_1 m (i5170 : Int) l5173 = tarryref14_Done.r1 k a0_0 a1 l0_1 (l0_1.drop i5170) l5173 := by
  intro m
  induction m with
  | zero => intro i5170 l5173 h hi; omega
  | succ m ih =>
    intro i5170 l5173 h hi
    by_cases hc : i5170 < l0_1.length
    · have hw : wrap64 ((i5170 : Int) + 1) = ((i5170 + 1 : Nat) : Int) := by unfold wrap64; omega
      have hg : l0_1[(i5170 : Int).toNat]? = some l0_1[i5170] := by rw [Int.toNat_natCast]; exact List.getElem?_eq_getElem hc
      have ih2 := fun l5173 => ih (i5170 + 1) l5173 (by omega) (by omega)
      rw [List.drop_eq_getElem_cons hc, tarryref14_Done.l1, tarryref14_Done.r1, if_pos (by omega), if_pos (by omega), hg, Option.bind_some]
      simp only [hw, ih2]
    · rw [List.drop_of_length_le (by omega), tarryref14_Done.l1, tarryref14_Done.r1, if_neg (by omega)]

end Go.Proofs.Ytapdeoioenblfaa.POutboxGoes
