/- Written by a program of this repo: what the program's functions do, each as a Lean function, shown of the loaded code; or a statement's row over that; no condition of its own. -/
import Derived.Test.YtapdeoioenblfaaPOutboxTellsx0
namespace Go.Proofs.Ytapdeoioenblfaa.POutboxTells
open Go Go.RowKit Go.Proofs.YtapdeoioenblfaaV
set_option linter.unusedVariables false
set_option linter.unusedSimpArgs false

def slices_IndexFunc_api_Out_api_Out.r1 (k : Nat) (a1_0_0 : Int) (a1_1_0 : Int) (l0 : List S33) : List S33 → Nat → Option (Int)
  | [], i154 => (some (-1))
  | x183 :: xsi154, i154 => ((outbox_of_1.f x183.f0 x183.f1 x183.f2 x183.f3 a1_0_0 a1_1_0).bind fun t186 => (if t186 = true then (some (i154 : Int)) else (slices_IndexFunc_api_Out_api_Out.r1 k a1_0_0 a1_1_0 l0 xsi154 (i154 + 1))))
set_option maxHeartbeats 1000000 in
theorem slices_IndexFunc_api_Out_api_Out.r1_eq (k : Nat) (a1_0_0 : Int) (a1_1_0 : Int) (l0 : List S33)  (hs : l0.length < 4611686018427387904) : ∀ (m i154 : Nat), l0.length < m + i154 → i154 ≤ l0.length → slices_IndexFunc_api_Out_api_Out.l1 k a1_0_0 a1_1_0 l0 m (i154 : Int) = slices_IndexFunc_api_Out_api_Out.r1 k a1_0_0 a1_1_0 l0 (l0.drop i154) i154 := by
  intro m
  induction m with
  | zero => intro i154 h hi; omega
  | succ m ih =>
    intro i154 h hi
    by_cases hc : i154 < l0.length
    · have hw : wrap64 ((i154 : Int) + 1) = ((i154 + 1 : Nat) : Int) := by unfold wrap64; omega
      have hg : l0[(i154 : Int).toNat]? = some l0[i154] := by rw [Int.toNat_natCast]; exact List.getElem?_eq_getElem hc
      have ih2 := ih (i154 + 1) (by omega) (by omega)
      rw [List.drop_eq_getElem_cons hc, slices_IndexFunc_api_Out_api_Out.l1, slices_IndexFunc_api_Out_api_Out.r1, if_pos (by omega), if_pos (by omega), hg, Option.bind_some]
      simp only [hw, ih2]
    · rw [List.drop_of_length_le (by omega), slices_IndexFunc_api_Out_api_Out.l1, slices_IndexFunc_api_Out_api_Out.r1, if_neg (by omega)]
def outbox_Right.r1 (k : Nat) (a0_0 : Int) (l0_1 : List S33) : List S33 → Nat → Int → Option (Bool)
  | [], i573, i572 => (if (l0_1.length : Int) ≤ 96 then ((outbox_time.f a0_0).bind fun t804 => (if t804 = true then (some (decide (i572 ≤ a0_0))) else (some false))) else (some false))
  | x746 :: xsi573, i573, i572 => ((outbox_number.f x746.f0).bind fun t761 => (if t761 = true then ((outbox_number.f x746.f2).bind fun t764 => (if t764 = true then ((outbox_kinds.f x746.f1).bind fun t767 => (if t767 = true then ((outbox_time.f x746.f3).bind fun t770 => (if t770 = true then (if x746.f0 ≤ i572 then (some false) else ((outbox_of.f x746.f1 x746.f2).bind fun ⟨t787, t788⟩ => ((outbox_where_Out.f k l0_1 t787 t788).bind fun t792 => (if t792 = (i573 : Int) then (outbox_Right.r1 k a0_0 l0_1 xsi573 (i573 + 1) x746.f0) else (some false))))) else (some false))) else (some false))) else (some false))) else (some false)))
set_option maxHeartbeats 1000000 in
theorem outbox_Right.r1_eq (k : Nat) (a0_0 : Int) (l0_1 : List S33)  (hs : l0_1.length < 4611686018427387904) : ∀ (m i573 : Nat) (i572 : Int), l0_1.length < m + i573 → i573 ≤ l0_1.length → outbox_Right.l1 k a0_0 l0_1 m i572 (i573 : Int) = outbox_Right.r1 k a0_0 l0_1 (l0_1.drop i573) i573 i572 := by
  intro m
  induction m with
  | zero => intro i573 i572 h hi; omega
  | succ m ih =>
    intro i573 i572 h hi
    by_cases hc : i573 < l0_1.length
    · have hw : wrap64 ((i573 : Int) + 1) = ((i573 + 1 : Nat) : Int) := by unfold wrap64; omega
      have hg : l0_1[(i573 : Int).toNat]? = some l0_1[i573] := by rw [Int.toNat_natCast]; exact List.getElem?_eq_getElem hc
      have ih2 := fun i572 => ih (i573 + 1) i572 (by omega) (by omega)
      rw [List.drop_eq_getElem_cons hc, outbox_Right.l1, outbox_Right.r1, if_pos (by omega), if_pos (by omega), hg, Option.bind_some]
      simp only [hw, ih2]
    · rw [List.drop_of_length_le (by omega), outbox_Right.l1, outbox_Right.r1, if_neg (by omega)]
def slices_IndexFunc_api_Out_api_Out_s10.r1 (k : Nat) (a1_0_0 : Int) (l0 : List S33) : List S33 → Nat → Option (Int)
  | [], i1127 => (some (-1))
  | x1156 :: xsi1127, i1127 => ((outbox_Done_1.f x1156.f0 x1156.f1 x1156.f2 x1156.f3 a1_0_0).bind fun t1159 => (if t1159 = true then (some (i1127 : Int)) else (slices_IndexFunc_api_Out_api_Out_s10.r1 k a1_0_0 l0 xsi1127 (i1127 + 1))))
set_option maxHeartbeats 1000000 in
theorem slices_IndexFunc_api_Out_api_Out_s10.r1_eq (k : Nat) (a1_0_0 : Int) (l0 : List S33)  (hs : l0.length < 4611686018427387904) : ∀ (m i1127 : Nat), l0.length < m + i1127 → i1127 ≤ l0.length → slices_IndexFunc_api_Out_api_Out_s10.l1 k a1_0_0 l0 m (i1127 : Int) = slices_IndexFunc_api_Out_api_Out_s10.r1 k a1_0_0 l0 (l0.drop i1127) i1127 := by
  intro m
  induction m with
  | zero => intro i1127 h hi; omega
  | succ m ih =>
    intro i1127 h hi
    by_cases hc : i1127 < l0.length
    · have hw : wrap64 ((i1127 : Int) + 1) = ((i1127 + 1 : Nat) : Int) := by unfold wrap64; omega
      have hg : l0[(i1127 : Int).toNat]? = some l0[i1127] := by rw [Int.toNat_natCast]; exact List.getElem?_eq_getElem hc
      have ih2 := ih (i1127 + 1) (by omega) (by omega)
      rw [List.drop_eq_getElem_cons hc, slices_IndexFunc_api_Out_api_Out_s10.l1, slices_IndexFunc_api_Out_api_Out_s10.r1, if_pos (by omega), if_pos (by omega), hg, Option.bind_some]
      simp only [hw, ih2]
    · rw [List.drop_of_length_le (by omega), slices_IndexFunc_api_Out_api_Out_s10.l1, slices_IndexFunc_api_Out_api_Out_s10.r1, if_neg (by omega)]
def outbox_Tell.r0 (k : Nat) (a0_0 : Int) (a1 : Int) (r1255 : List S33) (t1256 : Int) : List S33 → Nat → (List S33) → (List S33) → Option (Int × List S33 × List S33 × Int)
  | [], i1332, l1335, l1339 => (some (a0_0, l1339, l1335, 0))
  | x1440 :: xsi1332, i1332, l1335, l1339 => (if x1440.f3 ≤ t1256 then (if (l1335.length + ([x1440] : List S33).length) * 32 ≤ 140737488355328 then ((l1339[(i1332 : Int).toNat]?).bind fun x1465 => (outbox_Tell.r0 k a0_0 a1 r1255 t1256 xsi1332 (i1332 + 1) (l1335 ++ ([x1440] : List S33)) (l1339.set (i1332 : Int).toNat (⟨x1465.f0, x1465.f1, x1465.f2, mn (wrap64 (a1 + 10)) 1099511627776⟩ : S33)))) else none) else (outbox_Tell.r0 k a0_0 a1 r1255 t1256 xsi1332 (i1332 + 1) l1335 l1339))
set_option maxHeartbeats 1000000 in
theorem outbox_Tell.r0_eq (k : Nat) (a0_0 : Int) (a1 : Int) (r1255 : List S33) (t1256 : Int)  (hs : r1255.length < 4611686018427387904) : ∀ (m i1332 : Nat) (l1335 : List S33) (l1339 : List S33), r1255.length < m + i1332 → i1332 ≤ r1255.length → outbox_Tell.l0 k a0_0 a1 r1255 t1256 m (i1332 : Int) l1335 l1339 = outbox_Tell.r0 k a0_0 a1 r1255 t1256 (r1255.drop i1332) i1332 l1335 l1339 := by
  intro m
  induction m with
  | zero => intro i1332 l1335 l1339 h hi; omega
  | succ m ih =>
    intro i1332 l1335 l1339 h hi
    by_cases hc : i1332 < r1255.length
    · have hw : wrap64 ((i1332 : Int) + 1) = ((i1332 + 1 : Nat) : Int) := by unfold wrap64; omega
      have hg : r1255[(i1332 : Int).toNat]? = some r1255[i1332] := by rw [Int.toNat_natCast]; exact List.getElem?_eq_getElem hc
      have ih2 := fun l1335 l1339 => ih (i1332 + 1) l1335 l1339 (by omega) (by omega)
      rw [List.drop_eq_getElem_cons hc, outbox_Tell.l0, outbox_Tell.r0, if_pos (by omega), if_pos (by omega), hg, Option.bind_some]
      simp only [hw, ih2]
    · rw [List.drop_of_length_le (by omega), outbox_Tell.l0, outbox_Tell.r0, if_neg (by omega)]
-- tarrylaw14_OutboxTells.l73: an index ahead of others, in a loop
-- tarrylaw14_OutboxTells.l39: an inner loop of no such shape

end Go.Proofs.Ytapdeoioenblfaa.POutboxTells
