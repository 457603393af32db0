/- OrderGoes: what is sent, comes and ends an order agrees with the reference; no further condition. -/
import Derived.Test.YtlmpfogfgefngaaROrderGoes
namespace Go.Proofs.Ytlmpfogfgefngaa.Pure
open Go Go.RowKit Go.Proofs.Ytlmpfogfgefngaa.POrderGoes Go.Proofs.YtlmpfogfgefngaaV 
set_option linter.unusedSimpArgs false
set_option linter.unusedVariables false
theorem ba_toList_loop (a : ByteArray) : ∀ (d i : Nat) (r : List UInt8), a.size - i = d → ByteArray.toList.loop a i r = r.reverse ++ a.data.toList.drop i := by
  intro d
  induction d with
  | zero =>
    intro i r h
    unfold ByteArray.toList.loop
    have h1 : ¬ i < a.size := by omega
    rw [if_neg h1, List.drop_eq_nil_of_le (by show a.data.toList.length ≤ i; rw [Array.length_toList]; exact Nat.le_of_not_lt h1), List.append_nil]
  | succ d ih =>
    intro i r h
    unfold ByteArray.toList.loop
    have h1 : i < a.size := by omega
    have h2 : i < a.data.toList.length := by rw [Array.length_toList]; exact h1
    rw [if_pos h1, ih (i + 1) _ (by omega), List.reverse_cons, List.append_assoc, List.drop_eq_getElem_cons h2]
    have h3 : a.get! i = a.data.toList[i] := by
      show a.data[i]! = _
      rw [getElem!_pos a.data i h1]
      rfl
    rw [h3]
    rfl
theorem ba_toList (a : ByteArray) : a.toList = a.data.toList := by
  unfold ByteArray.toList
  rw [ba_toList_loop a a.size 0 [] (by omega)]
  rfl
/-! ### texts in order -/
theorem cb_self : ∀ l : List UInt8, Lib.compareBytes l l = 0
  | [] => rfl
  | a :: l => by
    have : ¬ a < a := by simp [UInt8.lt_iff_toNat_lt]
    rw [Lib.compareBytes, if_neg this, if_neg this]
    exact cb_self l
theorem cb_eq : ∀ (a b : List UInt8), Lib.compareBytes a b = 0 → a = b
  | [], [], _ => rfl
  | [], _ :: _, h => by rw [Lib.compareBytes] at h; omega
  | _ :: _, [], h => by rw [Lib.compareBytes] at h; omega
  | a :: xs, b :: ys, h => by
    rw [Lib.compareBytes] at h
    split at h
    · omega
    · split at h
      · omega
      · rename_i h1 h2
        have : a = b := by
          apply UInt8.toNat_inj.1
          simp only [UInt8.lt_iff_toNat_lt] at h1 h2
          omega
        rw [this, cb_eq xs ys h]
theorem cb_anti : ∀ (a b : List UInt8), Lib.compareBytes a b = - Lib.compareBytes b a
  | [], [] => rfl
  | [], _ :: _ => rfl
  | _ :: _, [] => rfl
  | a :: xs, b :: ys => by
    rw [Lib.compareBytes, Lib.compareBytes, cb_anti xs ys]
    simp only [UInt8.lt_iff_toNat_lt]
    split <;> split <;> omega
theorem cb_trans : ∀ (a b c : List UInt8), Lib.compareBytes a b < 0 → Lib.compareBytes b c < 0 → Lib.compareBytes a c < 0
  | [], [], _, h, _ => by rw [Lib.compareBytes] at h; omega
  | [], _ :: _, [], _, h => by rw [Lib.compareBytes] at h; omega
  | [], _ :: _, _ :: _, _, _ => by rw [Lib.compareBytes]; omega
  | _ :: _, [], _, h, _ => by rw [Lib.compareBytes] at h; omega
  | _ :: _, _ :: _, [], _, h => by rw [Lib.compareBytes] at h; omega
  | a :: xs, b :: ys, c :: zs, h1, h2 => by
    have ih := cb_trans xs ys zs
    rw [Lib.compareBytes] at h1 h2 ⊢
    simp only [UInt8.lt_iff_toNat_lt] at *
    split at h1
    · split at h2
      · rw [if_pos (by omega)]; omega
      · split at h2
        · omega
        · rw [if_pos (by omega)]; omega
    · split at h1
      · omega
      · split at h2
        · rw [if_pos (by omega)]; omega
        · split at h2
          · omega
          · rw [if_neg (by omega), if_neg (by omega)]
            exact ih h1 h2
theorem bl_is : ∀ (a b : List UInt8), Op.bytesLess a b = decide (Lib.compareBytes a b < 0)
  | [], [] => rfl
  | [], _ :: _ => rfl
  | _ :: _, [] => rfl
  | a :: xs, b :: ys => by
    rw [Op.bytesLess, Lib.compareBytes, bl_is xs ys]
    simp only [UInt8.lt_iff_toNat_lt]
    by_cases h1 : a.toNat < b.toNat
    · simp [h1]
    · by_cases h2 : b.toNat < a.toNat
      · have : ¬ a = b := fun e => by rw [e] at h2; omega
        simp [h1, h2, this]
      · have : a = b := UInt8.toNat_inj.1 (by omega)
        simp [this]
def sc (a b : ByteArray) : Int := Lib.compareBytes a.data.toList b.data.toList
def sl (a b : ByteArray) : Prop := sc a b < 0
instance (a b : ByteArray) : Decidable (sl a b) := by unfold sl; exact inferInstance
theorem sl_trans {a b c : ByteArray} (h1 : sl a b) (h2 : sl b c) : sl a c := cb_trans _ _ _ h1 h2
theorem sc_self (a : ByteArray) : sc a a = 0 := cb_self _
theorem sc_anti (a b : ByteArray) : sc a b = - sc b a := cb_anti _ _
theorem sc_eq {a b : ByteArray} : sc a b = 0 ↔ a = b := by
  refine ⟨fun h => ?_, fun h => by rw [h]; exact sc_self b⟩
  have := cb_eq _ _ h
  cases a with
  | mk a =>
    cases b with
    | mk b => simpa using this
theorem sl_irr (a : ByteArray) : ¬ sl a a := by unfold sl; rw [sc_self]; decide
theorem sl_asymm {a b : ByteArray} (h : sl a b) : ¬ sl b a := by unfold sl at *; rw [sc_anti b a]; omega
theorem sl_tri {a b : ByteArray} (h : ¬ sl a b) (hne : a ≠ b) : sl b a := by
  unfold sl at *
  rw [sc_anti b a]
  have : sc a b ≠ 0 := fun e => hne (sc_eq.1 e)
  omega
theorem bytesLess_is (a b : ByteArray) : Op.bytesLess a.toList b.toList = decide (sl a b) := by rw [ba_toList, ba_toList]; exact bl_is _ _
/-! ### bytes -/
theorem bt_is {s : ByteArray} {i : Nat} (h : i < s.size) : (byI s)[i]? = some (bt s i) := by
  unfold byI bt
  rw [List.getElem?_map, Array.getElem?_toList, Int.toNat_natCast, dif_pos h]
  have : s.data[i]? = some s.data[i] := Array.getElem?_eq_getElem h
  rw [this]
  rfl
theorem byI_sl (a b : ByteArray) : a.data.toList.map (fun c => (c.toNat : Int)) = byI a := rfl
def charB (c : Int) : Bool := (decide (97 ≤ c) && decide (c ≤ 122)) || (decide (48 ≤ c) && decide (c ≤ 57))
theorem charB_eq (c : Int) : charB c = decide ((97 ≤ c ∧ c ≤ 122) ∨ (48 ≤ c ∧ c ≤ 57)) := by
  unfold charB
  simp only [Bool.decide_or, Bool.decide_and]
/-- May a text be a name? -/
def nm (s : ByteArray) : Bool := decide (s.size ≠ 0) && (decide (s.size ≤ 16) && (byI s).all charB)
theorem beq_is (a b : ByteArray) : (a == b) = decide (a = b) := by
  rw [beq_toListBytes, ba_toList, ba_toList, Bool.eq_iff_iff, beq_iff_eq, decide_eq_true_eq]
  refine ⟨fun h => ?_, fun h => by rw [h]⟩
  cases a with
  | mk a =>
    cases b with
    | mk b => simpa using h
theorem nil_is (s : ByteArray) : (s == (⟨#[]⟩ : ByteArray)) = decide (s.size = 0) := by
  rw [beq_is, decide_eq_decide]
  refine ⟨fun h => by rw [h]; rfl, fun h => ?_⟩
  cases s with
  | mk d =>
    have : d = #[] := Array.eq_empty_of_size_eq_zero h
    rw [this]
theorem odd_tells (c : Int) : goods_name_1.f c = some (!charB c) := by
  unfold goods_name_1.f
  rw [charB_eq]
  by_cases hP : (97 ≤ c ∧ c ≤ 122) ∨ (48 ≤ c ∧ c ≤ 57)
  · rw [decide_eq_true hP]
    (repeat' split) <;> first | rfl | omega | (rw [decide_eq_false (by omega)]; rfl)
  · rw [decide_eq_false hP]
    (repeat' split) <;> first | rfl | omega | (rw [decide_eq_true (by omega)]; rfl)
theorem bytes_tells (k : Nat) (l : List Int) (hk : l.length < k) (hs : l.length < 1000000) : slices_ContainsFunc_byte_byte.f k l = some (l.any (fun c => !charB c)) := by
  have key : ∀ (xs : List Int) (i : Nat), ∃ j, slices_IndexFunc_byte_byte.r1 k l xs i = some j ∧ decide (j ≥ 0) = xs.any (fun c => !charB c) := by
    intro xs
    induction xs with
    | nil => intro i; exact ⟨-1, rfl, rfl⟩
    | cons x xs ih =>
      intro i
      rw [slices_IndexFunc_byte_byte.r1, odd_tells, Option.bind_some, List.any_cons]
      cases charB x with
      | false => exact ⟨i, rfl, by simp⟩
      | true => simpa using ih (i + 1)
  unfold slices_ContainsFunc_byte_byte.f slices_IndexFunc_byte_byte.f
  have := slices_IndexFunc_byte_byte.r1_eq k l (by omega) k 0 (by omega) (by omega)
  rw [show ((0 : Nat) : Int) = 0 from rfl, List.drop_zero] at this
  rw [this]
  obtain ⟨j, h1, h2⟩ := key l 0
  rw [h1, Option.bind_some, h2]
theorem name_tells (k : Nat) (hk : 20 ≤ k) (s : ByteArray) : goods_name.f k s = some (nm s) := by
  unfold goods_name.f nm
  rw [nil_is]
  by_cases h0 : s.size = 0
  · simp [h0]
  · rw [if_neg (by simpa using h0)]
    by_cases h1 : s.size ≤ 16
    · rw [if_pos (by omega), if_pos (by omega), bytes_tells k _ (by rw [byI_len]; omega) (by rw [byI_len]; omega), Option.bind_some]
      have : (byI s).any (fun c => !charB c) = !(byI s).all charB := by rw [List.not_all_eq_any_not]
      rw [this]
      cases (byI s).all charB <;> simp [h0, h1]
    · rw [if_neg (by omega)]
      simp [h1]
theorem csub_nil (k : Nat) : True := trivial
theorem gright_one (k : Nat) (hk : 20 ≤ k) (s : ByteArray) : goods_Right.f k [s] [] = some (nm s) := by
  obtain ⟨k, rfl⟩ : ∃ q, k = q + 2 := ⟨k - 2, by omega⟩
  have h1 : slices_ContainsFunc_string_string.f (k + 2) [s] = some (!nm s) := by
    unfold slices_ContainsFunc_string_string.f slices_IndexFunc_string_string.f
    have := slices_IndexFunc_string_string.r1_eq (k + 2) [s] (by simp) (k + 2) 0 (by simp) (by simp)
    rw [show ((0 : Nat) : Int) = 0 from rfl, List.drop_zero] at this
    rw [this, slices_IndexFunc_string_string.r1, goods_Right_2.f, name_tells (k + 2) hk, Option.bind_some]
    cases nm s <;> rfl
  have h2 : goods_rising_string.f (k + 2) [s] 8 = some true := by
    unfold goods_rising_string.f
    rw [goods_rising_string.l1, if_neg (by simp)]
    rfl
  have h3 : goods_rising_Sub.f (k + 2) [] 16 = some true := by
    unfold goods_rising_Sub.f
    rw [goods_rising_Sub.l1, if_neg (by simp)]
    rfl
  unfold goods_Right.f
  rw [goods_Right.l1, if_neg (by simp), h1, Option.bind_some, h2, Option.bind_some, h3]
  cases nm s <;> rfl
theorem rname_tells (k : Nat) (s : ByteArray) (hs : s.size ≤ 1000) (hk : s.size < k) : tarryref07_Name.f k s = some (nm s) := by
  have key : ∀ (d m i : Nat), i + d = s.size → d < m → tarryref07_Name.l1 k s m (i : Int) = some (decide (s.size ≠ 0) && (decide (s.size ≤ 16) && ((byI s).drop i).all charB)) := by
    intro d
    induction d with
    | zero =>
      intro m i hi hm
      obtain ⟨m, rfl⟩ : ∃ q, m = q + 1 := ⟨m - 1, by omega⟩
      rw [tarryref07_Name.l1, if_neg (by omega), List.drop_of_length_le (by rw [byI_len]; omega)]
      by_cases h0 : s.size = 0
      · rw [if_neg (by omega)]; simp [h0]
      · rw [if_pos (by omega)]; simp [h0]; omega
    | succ d ih =>
      intro m i hi hm
      obtain ⟨m, rfl⟩ : ∃ q, m = q + 1 := ⟨m - 1, by omega⟩
      have hlt : i < s.size := by omega
      have hl : i < (byI s).length := by rw [byI_len]; exact hlt
      have hb : (byI s)[i] = bt s i := by have := bt_is hlt; rw [List.getElem?_eq_getElem hl] at this; exact Option.some.inj this
      have hw : wrap64 ((i : Int) + 1) = ((i + 1 : Nat) : Int) := by unfold wrap64; omega
      rw [tarryref07_Name.l1, if_pos (by omega), if_pos (by omega), if_pos (by omega), hw, ih m (i + 1) (by omega) (by omega), List.drop_eq_getElem_cons hl, List.all_cons, hb, charB_eq]
      have hn0 : s.size ≠ 0 := by omega
      by_cases hP : (97 ≤ bt s i ∧ bt s i ≤ 122) ∨ (48 ≤ bt s i ∧ bt s i ≤ 57)
      · rw [decide_eq_true hP, Bool.true_and]
        (repeat' split) <;> first | rfl | omega
      · rw [decide_eq_false hP, Bool.false_and, Bool.and_false, Bool.and_false]
        (repeat' split) <;> first | rfl | omega
  unfold tarryref07_Name.f nm
  have := key s.size k 0 (by omega) hk
  rw [List.drop_zero] at this
  exact this
theorem oin_tells (a l m : Int) : order_in.f a l m = some (decide (l ≤ a ∧ a ≤ m)) := by
  unfold order_in.f
  split <;> simp <;> omega
theorem rin_tells (a l m : Int) : tarryref13_in.f a l m = some (decide (l ≤ a ∧ a ≤ m)) := by
  unfold tarryref13_in.f
  split <;> simp <;> omega
/-- Which place in the queue may be. -/
def WT (r b n : Int) : Prop := 0 ≤ r ∧ r ≤ 3 ∧ 1 ≤ b ∧ b ≤ 1099511627776 ∧ 1 ≤ n ∧ n ≤ 1099511627776
instance (r b n : Int) : Decidable (WT r b n) := by unfold WT; exact inferInstance
theorem rwait_tells (r b n : Int) : tarryref06_May.f r b n = some (decide (WT r b n)) := by
  unfold tarryref06_May.f WT
  repeat' split
  all_goals (congr 1; first | (symm; apply decide_eq_true; omega) | (symm; apply decide_eq_false; omega) | (apply decide_eq_decide.2; omega))
theorem qnum_tells (a : Int) : queue_number.f a = some (decide (1 ≤ a ∧ a ≤ 1099511627776)) := by
  unfold queue_number.f
  split <;> simp <;> omega
theorem qmay_tells (r b n : Int) : queue_may.f r b n = some (decide (WT r b n)) := by
  unfold queue_may.f WT
  simp only [qnum_tells, Option.bind_some, decide_eq_true_eq]
  repeat' split
  all_goals (congr 1; first | (symm; apply decide_eq_true; omega) | (symm; apply decide_eq_false; omega) | (apply decide_eq_decide.2; omega))
theorem wait_tells (k : Nat) (r b n : Int) : queue_Right.f (k + 3) [⟨r, b, n⟩] = some (decide (WT r b n)) := by
  have h1 : slices_IndexFunc_api_Wait_api_Wait.f (k + 3) [⟨r, b, n⟩] = some (if decide (WT r b n) = true then -1 else 0) := by
    unfold slices_IndexFunc_api_Wait_api_Wait.f
    have := slices_IndexFunc_api_Wait_api_Wait.r1_eq (k + 3) [⟨r, b, n⟩] (by simp) (k + 3) 0 (by simp) (by simp)
    rw [show ((0 : Nat) : Int) = 0 from rfl, List.drop_zero] at this
    rw [this, slices_IndexFunc_api_Wait_api_Wait.r1, queue_all_1.f, qmay_tells, Option.bind_some]
    cases decide (WT r b n) <;> rfl
  unfold queue_Right.f
  rw [queue_Right.l1, if_neg (by simp)]
  unfold queue_all.f slices_ContainsFunc_api_Wait_api_Wait.f
  rw [h1, if_pos (by simp)]
  cases decide (WT r b n) <;> rfl
theorem time_tells (a : Int) : pay_time.f a = some (decide (0 ≤ a ∧ a ≤ 1099511627776)) := by
  unfold pay_time.f
  split <;> simp <;> omega
theorem units_tells (a : Int) : pay_units.f a = some (decide (1 ≤ a ∧ a ≤ 1073741824)) := by
  unfold pay_units.f
  split <;> simp <;> omega
def Rt (a b c d : Int) : Prop := 0 ≤ a ∧ a ≤ 1125899906842624 ∧ 0 ≤ b ∧ b ≤ a ∧ 0 ≤ c ∧ c ≤ 1099511627776 ∧ 1 ≤ d ∧ d ≤ 3
instance (a b c d : Int) : Decidable (Rt a b c d) := by unfold Rt; exact inferInstance
theorem right_tells (a b c d : Int) : pay_Right.f a b c d = some (decide (Rt a b c d)) := by
  unfold pay_Right.f Rt
  simp only [time_tells, Option.bind_some, decide_eq_true_eq]
  repeat' split
  all_goals (congr 1; first | (symm; apply decide_eq_true; omega) | (symm; apply decide_eq_false; omega) | (apply decide_eq_decide.2; omega))
theorem rpay_tells (a b c d : Int) : tarryref13_Pay.f a b c d = some (decide (Rt a b c d)) := by
  unfold tarryref13_Pay.f Rt
  simp only [rin_tells, Option.bind_some, decide_eq_true_eq]
  repeat' split
  all_goals (congr 1; first | (symm; apply decide_eq_true; omega) | (symm; apply decide_eq_false; omega) | (apply decide_eq_decide.2; omega))
/-- Which question may stand. -/
def AK (a b : Int) : Prop := (a = 0 ∧ b = 0) ∨ (1 ≤ a ∧ a ≤ 3 ∧ 0 ≤ b ∧ b ≤ 1099511627776)
instance (a b : Int) : Decidable (AK a b) := by unfold AK; exact inferInstance
theorem asktime_tells (a : Int) : ask_time.f a = some (decide (0 ≤ a ∧ a ≤ 1099511627776)) := by
  unfold ask_time.f
  split <;> simp <;> omega
theorem ask_tells (a b : Int) : ask_Right.f a b = some (decide (AK a b)) := by
  unfold ask_Right.f AK
  simp only [asktime_tells, Option.bind_some, Bool.and_eq_true, beq_iff_eq]
  repeat' split
  all_goals (congr 1; first | (symm; apply decide_eq_true; omega) | (symm; apply decide_eq_false; omega) | (apply decide_eq_decide.2; omega))
theorem rask_tells (a b : Int) : tarryref13_Ask.f a b = some (decide (AK a b)) := by
  unfold tarryref13_Ask.f AK
  simp only [rin_tells, Option.bind_some, decide_eq_true_eq]
  repeat' split
  all_goals (congr 1; first | (symm; apply decide_eq_true; omega) | (symm; apply decide_eq_false; omega) | (apply decide_eq_decide.2; omega))
theorem oname_tells (k : Nat) (hk : 20 ≤ k) (s : ByteArray) : order_name.f k s = some (nm s) := by
  unfold order_name.f
  rw [gright_one k hk]
  rfl
/-- Nothing is on the way. -/
def EM (li : ByteArray) (lu lc lk : Int) : Bool := (li == (⟨#[]⟩ : ByteArray)) && ((lu == 0) && ((lc == 0) && (lk == 0)))
theorem rempty_tells (li : ByteArray) (lu lc lk : Int) : tarryref13_Empty.f li lu lc lk = some (EM li lu lc lk) := by
  unfold tarryref13_Empty.f EM
  cases li == (⟨#[]⟩ : ByteArray) with
  | false => rfl
  | true =>
    rw [if_pos rfl]
    by_cases h1 : lu = 0
    · rw [if_pos h1]
      by_cases h2 : lc = 0
      · rw [if_pos h2]; simp [h1, h2]
      · rw [if_neg h2]; simp [h2]
    · rw [if_neg h1]; simp [h1]
variable (id : Int) (it : ByteArray) (rk bo m d p du : Int) (sp : Bool) (ph : Int) (li : ByteArray) (lu lc lk pr pd un st ak am : Int) (en : Bool)
/-- What is on the way may be. -/
def LD (m d : Int) (it li : ByteArray) (lu lc lk : Int) : Bool := (!(li == it) || decide (lu = lc)) && nm li && decide (1 ≤ lu ∧ lu ≤ 1073741824) && decide (1 ≤ lc ∧ lc ≤ wrap64 (m - d)) && decide (1 ≤ lk ∧ lk ≤ 1099511627776)
theorem sent_tells (k : Nat) (hk : 20 ≤ k) : order_sent.f k id it rk bo m d p du sp ph li lu lc lk pr pd un st ak am en = some (LD m d it li lu lc lk) := by
  unfold order_sent.f LD
  simp only [oname_tells k hk, oin_tells, Option.bind_some]
  generalize decide (1 ≤ lu ∧ lu ≤ 1073741824) = b1
  generalize decide (1 ≤ lc ∧ lc ≤ wrap64 (m - d)) = b2
  generalize decide (1 ≤ lk ∧ lk ≤ 1099511627776) = b3
  generalize nm li = b4
  cases li == it with
  | false => cases b1 <;> cases b2 <;> cases b3 <;> cases b4 <;> rfl
  | true =>
    by_cases h : lu = lc
    · rw [if_pos rfl, if_pos h, decide_eq_true h]
      cases b1 <;> cases b2 <;> cases b3 <;> cases b4 <;> rfl
    · rw [if_pos rfl, if_neg h, decide_eq_false h]
      rfl
theorem rload_tells (k : Nat) (hk : 20 ≤ k) (hs : li.size ≤ 18) : tarryref13_Load.f k id it rk bo m d p du sp ph li lu lc lk pr pd un st ak am en = some (LD m d it li lu lc lk) := by
  unfold tarryref13_Load.f LD
  simp only [rname_tells k li (by omega) (by omega), rin_tells, Option.bind_some]
  generalize decide (1 ≤ lu ∧ lu ≤ 1073741824) = b1
  generalize decide (1 ≤ lc ∧ lc ≤ wrap64 (m - d)) = b2
  generalize decide (1 ≤ lk ∧ lk ≤ 1099511627776) = b3
  generalize nm li = b4
  cases li == it with
  | false => cases b1 <;> cases b2 <;> cases b3 <;> cases b4 <;> rfl
  | true =>
    by_cases h : lu = lc
    · rw [if_pos rfl, if_pos h, decide_eq_true h]
      cases b1 <;> cases b2 <;> cases b3 <;> cases b4 <;> rfl
    · rw [if_pos rfl, if_neg h, decide_eq_false h]
      rfl
/-- The phase agrees with the rest. -/
def PH (m d : Int) (it : ByteArray) (ph : Int) (li : ByteArray) (lu lc lk st : Int) (en : Bool) : Bool :=
  if ph = 1 then decide (d < m) && EM li lu lc lk && !en && !(st == 3)
  else if ph = 2 then LD m d it li lu lc lk && !(st == 3)
  else if ph = 3 then EM li lu lc lk && !en && (st == 3) && (d == m)
  else if ph = 4 then EM li lu lc lk && !en && (st == 3) && decide (d > 0) && decide (d < m)
  else if ph = 5 then EM li lu lc lk && !en && (st == 3) && (d == 0)
  else false
theorem p1 : order_phases_1.f id it rk bo m d p du sp ph li lu lc lk pr pd un st ak am en = some (decide (d < m) && EM li lu lc lk && !en && !(st == 3)) := by
  unfold order_phases_1.f EM
  generalize ((li == (⟨#[]⟩ : ByteArray)) && ((lu == 0) && ((lc == 0) && (lk == 0)))) = b
  by_cases h : d < m
  · rw [if_pos h, decide_eq_true h]; cases b <;> cases en <;> rfl
  · rw [if_neg h, decide_eq_false h]; rfl
theorem p2 (k : Nat) (hk : 20 ≤ k) : order_phases_2.f k id it rk bo m d p du sp ph li lu lc lk pr pd un st ak am en = some (LD m d it li lu lc lk && !(st == 3)) := by
  unfold order_phases_2.f
  rw [sent_tells _ _ _ _ _ _ _ _ _ _ _ _ _ _ _ _ _ _ _ _ _ k hk, Option.bind_some]
  cases LD m d it li lu lc lk <;> rfl
theorem ended_tells : order_ended.f id it rk bo m d p du sp ph li lu lc lk pr pd un st ak am en = some (EM li lu lc lk && !en && (st == 3)) := by
  unfold order_ended.f EM
  generalize ((li == (⟨#[]⟩ : ByteArray)) && ((lu == 0) && ((lc == 0) && (lk == 0)))) = b
  cases b <;> cases en <;> rfl
theorem p3 : order_phases_3.f id it rk bo m d p du sp ph li lu lc lk pr pd un st ak am en = some (EM li lu lc lk && !en && (st == 3) && (d == m)) := by
  unfold order_phases_3.f
  rw [ended_tells, Option.bind_some]
  cases (EM li lu lc lk && !en && (st == 3)) <;> rfl
theorem p4 : order_phases_4.f id it rk bo m d p du sp ph li lu lc lk pr pd un st ak am en = some (EM li lu lc lk && !en && (st == 3) && decide (d > 0) && decide (d < m)) := by
  unfold order_phases_4.f
  rw [ended_tells, Option.bind_some]
  cases (EM li lu lc lk && !en && (st == 3)) with
  | false => rfl
  | true =>
    by_cases h : d > 0
    · rw [if_pos rfl, if_pos h, decide_eq_true h]; rfl
    · rw [if_pos rfl, if_neg h, decide_eq_false h]; rfl
theorem p5 : order_phases_5.f id it rk bo m d p du sp ph li lu lc lk pr pd un st ak am en = some (EM li lu lc lk && !en && (st == 3) && (d == 0)) := by
  unfold order_phases_5.f
  rw [ended_tells, Option.bind_some]
  cases (EM li lu lc lk && !en && (st == 3)) <;> rfl
/-- What an order may be. -/
def RB (id : Int) (it : ByteArray) (rk bo m d p du ph : Int) (li : ByteArray) (lu lc lk pr pd un st ak am : Int) (en : Bool) : Bool :=
  decide (1 ≤ m ∧ m ≤ 1073741824) && decide (1 ≤ p ∧ p ≤ 1073741824) && decide (0 ≤ d ∧ d ≤ m) && decide (0 ≤ du ∧ du ≤ 1099511627776) && decide (WT rk bo id) && decide (Rt pr pd un st) && (pr == wrap64 (m * p)) && (pd == wrap64 (d * p)) && nm it && decide (AK ak am) && PH m d it ph li lu lc lk st en
theorem rphase (k : Nat) (hk : 20 ≤ k) (hs : li.size ≤ 18) (q : Bool) : tarryref13_Right.j2 k id it li lu lc lk pr pd un st ak am rk en bo m d p du sp ph q = some (!q && PH m d it ph li lu lc lk st en) := by
  unfold tarryref13_Right.j2 PH
  rw [rload_tells _ _ _ _ _ _ _ _ _ _ _ _ _ _ _ _ _ _ _ _ _ k hk hs]
  simp only [rempty_tells, Option.bind_some]
  generalize LD m d it li lu lc lk = bl
  generalize EM li lu lc lk = b
  have e3 : (st == 3) = decide (st = 3) := by by_cases h : st = 3 <;> simp [h]
  have em : (d == m) = decide (d = m) := by by_cases h : d = m <;> simp [h]
  have e0 : (d == 0) = decide (d = 0) := by by_cases h : d = 0 <;> simp [h]
  rw [e3, em, e0]
  cases q with
  | true => rfl
  | false =>
    have hc : ph = 1 ∨ ph = 2 ∨ ph = 3 ∨ ph = 4 ∨ ph = 5 ∨ (¬ph = 1 ∧ ¬ph = 2 ∧ ¬ph = 3 ∧ ¬ph = 4 ∧ ¬ph = 5) := by omega
    rcases hc with h | h | h | h | h | ⟨g1, g2, g3, g4, g5⟩
    · subst h
      simp only [Int.reduceEq, reduceIte]
      by_cases h1 : d < m <;> by_cases h3 : st = 3 <;> simp only [h1, h3, reduceIte, decide_true, decide_false] <;> cases b <;> cases en <;> rfl
    · subst h
      simp only [Int.reduceEq, reduceIte]
      by_cases h3 : st = 3 <;> simp only [h3, reduceIte, decide_true, decide_false] <;> cases bl <;> rfl
    · subst h
      simp only [Int.reduceEq, reduceIte]
      by_cases h1 : d = m <;> simp only [h1, reduceIte, decide_true, decide_false] <;> cases b <;> cases en <;> cases decide (st = 3) <;> rfl
    · subst h
      simp only [Int.reduceEq, reduceIte]
      by_cases h1 : d < m <;> by_cases h4 : d > 0 <;> simp only [h1, h4, reduceIte, decide_true, decide_false] <;> cases b <;> cases en <;> cases decide (st = 3) <;> rfl
    · subst h
      simp only [Int.reduceEq, reduceIte]
      by_cases h1 : d = 0 <;> simp only [h1, reduceIte, decide_true, decide_false] <;> cases b <;> cases en <;> cases decide (st = 3) <;> rfl
    · simp only [g1, g2, g3, g4, g5, reduceIte, Bool.and_false, Bool.false_eq_true]
theorem oright_tells (k : Nat) (hk : 20 ≤ k) : order_Right.f k id it rk bo m d p du sp ph li lu lc lk pr pd un st ak am en = some (RB id it rk bo m d p du ph li lu lc lk pr pd un st ak am en) := by
  obtain ⟨k, rfl⟩ : ∃ q, k = q + 3 := ⟨k - 3, by omega⟩
  have hj2 : ∀ w q : Bool, (1 ≤ ph ∧ ph ≤ 5) → order_Right.j2 (k + 3) id it li lu lc lk pr pd un st ak am rk en bo m d p du sp ph w q = some (w && q && nm it && decide (AK ak am) && PH m d it ph li lu lc lk st en) := by
    intro w q h
    unfold order_Right.j2 PH
    rw [oname_tells _ hk, ask_tells, p1, p2 _ _ _ _ _ _ _ _ _ _ _ _ _ _ _ _ _ _ _ _ _ _ hk, p3, p4, p5]
    simp only [order_phases.f, Option.bind_some]
    have : ph = 1 ∨ ph = 2 ∨ ph = 3 ∨ ph = 4 ∨ ph = 5 := by omega
    cases w <;> cases q <;> cases nm it <;> cases decide (AK ak am) <;> rcases this with h | h | h | h | h <;> subst h <;> rfl
  unfold order_Right.f RB
  simp only [oin_tells, Option.bind_some]
  by_cases hp : 1 ≤ ph ∧ ph ≤ 5
  · unfold order_Right.j1
    rw [decide_eq_true hp, if_pos rfl]
    simp only [wait_tells, right_tells, Option.bind_some, hj2 _ _ hp]
    generalize PH m d it ph li lu lc lk st en = b1
    generalize decide (AK ak am) = b2
    generalize nm it = b3
    generalize decide (Rt pr pd un st) = b4
    generalize decide (WT rk bo id) = b5
    generalize decide (0 ≤ du ∧ du ≤ 1099511627776) = b6
    generalize decide (0 ≤ d ∧ d ≤ m) = b7
    generalize decide (1 ≤ p ∧ p ≤ 1073741824) = b8
    generalize decide (1 ≤ m ∧ m ≤ 1073741824) = b9
    have e3 : (pr == wrap64 (m * p)) = decide (pr = wrap64 (m * p)) := by by_cases h : pr = wrap64 (m * p) <;> simp [h]
    rw [e3]
    generalize (pd == wrap64 (d * p)) = ba
    cases b9 with
    | false => rfl
    | true =>
      cases b8 with
      | false => rfl
      | true =>
        cases b7 with
        | false => rfl
        | true =>
          cases b6 with
          | false => rfl
          | true =>
            by_cases h : pr = wrap64 (m * p)
            · rw [decide_eq_true h]; simp only [if_pos h]
              cases b4 <;> cases b5 <;> cases ba <;> cases b3 <;> cases b2 <;> rfl
            · rw [decide_eq_false h]; simp only [if_neg h]
              cases b4 <;> cases b5 <;> cases ba <;> cases b3 <;> cases b2 <;> rfl
  · have : PH m d it ph li lu lc lk st en = false := by
      unfold PH
      rw [if_neg (by omega), if_neg (by omega), if_neg (by omega), if_neg (by omega), if_neg (by omega)]
    rw [decide_eq_false hp, this, Bool.and_false]
    rfl
theorem rright_tells (k : Nat) (hk : 20 ≤ k) (hi : it.size ≤ 18) (hs : li.size ≤ 18) : tarryref13_Right.f k id it rk bo m d p du sp ph li lu lc lk pr pd un st ak am en = some (RB id it rk bo m d p du ph li lu lc lk pr pd un st ak am en) := by
  unfold tarryref13_Right.f RB tarryref13_Right.j1
  simp only [rin_tells, rwait_tells, rpay_tells, rask_tells, rname_tells k it (by omega) (by omega), Option.bind_some, rphase _ _ _ _ _ _ _ _ _ _ _ _ _ _ _ _ _ _ _ _ _ k hk hs]
  generalize PH m d it ph li lu lc lk st en = b1
  generalize decide (AK ak am) = b2
  generalize nm it = b3
  generalize decide (Rt pr pd un st) = b4
  generalize decide (WT rk bo id) = b5
  generalize decide (0 ≤ du ∧ du ≤ 1099511627776) = b6
  generalize decide (0 ≤ d ∧ d ≤ m) = b7
  generalize decide (1 ≤ p ∧ p ≤ 1073741824) = b8
  generalize decide (1 ≤ m ∧ m ≤ 1073741824) = b9
  have e3 : (pr == wrap64 (m * p)) = decide (pr = wrap64 (m * p)) := by by_cases h : pr = wrap64 (m * p) <;> simp [h]
  have e4 : (pd != wrap64 (d * p)) = !(pd == wrap64 (d * p)) := rfl
  rw [e3, e4]
  generalize (pd == wrap64 (d * p)) = ba
  cases b5 with
  | false => cases b9 <;> cases b8 <;> cases b7 <;> cases b6 <;> rfl
  | true =>
    cases b3 with
    | false => cases b9 <;> cases b8 <;> cases b7 <;> cases b6 <;> cases b4 <;> cases (decide (pr = wrap64 (m * p))) <;> cases ba <;> rfl
    | true =>
      cases b9 with
      | false => rfl
      | true =>
        cases b8 with
        | false => rfl
        | true =>
          cases b7 with
          | false => rfl
          | true =>
            cases b6 with
            | false => rfl
            | true =>
              by_cases h : pr = wrap64 (m * p)
              · rw [decide_eq_true h]; simp only [if_pos h]
                cases b4 <;> cases ba <;> cases b2 <;> rfl
              · rw [decide_eq_false h]; simp only [if_neg h]
                cases b4 <;> cases ba <;> cases b2 <;> rfl
theorem wf64 {a : Int} (h : (Lit.int .i64 a).wf = true) : -9223372036854775808 ≤ a ∧ a ≤ 9223372036854775807 := by
  simpa [Lit.wf, IntKind.min, IntKind.max, IntKind.signed, IntKind.bits] using h
theorem wrap64_id {a : Int} (h : -9223372036854775808 ≤ a) (h' : a ≤ 9223372036854775807) : wrap64 a = a := by
  unfold wrap64
  omega
theorem u64_wrap (x : Int) : IntKind.u64.wrap x = x % 18446744073709551616 := by simp [IntKind.wrap, IntKind.bits, IntKind.signed]
theorem may_tells (a : Int) : pack_may.f a = some (decide (-1152921504606846976 ≤ a ∧ a ≤ 1152921504606846976)) := by
  unfold pack_may.f
  split <;> simp <;> omega
theorem and_mask (x : Int) (h : 0 ≤ x) (h2 : x < 18446744073709551616) : Go.bits .and .u64 x 4294967295 = x % 4294967296 := by
  have := bits_mask .u64 64 (by decide) (by intro n h h'; simp [IntKind.wrap, IntKind.bits, IntKind.signed]; omega) 32 (by decide) x h (by simpa using h2)
  simpa using this

theorem mul_split (x y x1 x0 y1 y0 : Int) (hx : x = x1 * 4294967296 + x0) (hy : y = y1 * 4294967296 + y0) : x * y = x1 * y1 * 18446744073709551616 + (x1 * y0 + x0 * y1) * 4294967296 + x0 * y0 := by
  subst hx hy
  simp only [Int.add_mul, Int.mul_add]
  have e1 : x1 * 4294967296 * (y1 * 4294967296) = x1 * y1 * 18446744073709551616 := by
    rw [Int.mul_assoc, Int.mul_left_comm 4294967296 y1, ← Int.mul_assoc]
    rfl
  have e2 : x1 * 4294967296 * y0 = x1 * y0 * 4294967296 := Int.mul_right_comm ..
  have e3 : x0 * (y1 * 4294967296) = x0 * y1 * 4294967296 := (Int.mul_assoc ..).symm
  rw [e1, e2, e3]
  omega

theorem prod_le {a b c d : Int} (ha : 0 ≤ a) (hb : 0 ≤ b) (h1 : a ≤ c) (h2 : b ≤ d) : 0 ≤ a * b ∧ a * b ≤ c * d :=
  ⟨Int.mul_nonneg ha hb, Int.mul_le_mul h1 h2 hb (by omega)⟩

theorem mul64_tells (x y : Int) (hx : 0 ≤ x ∧ x ≤ 1152921504606846976) (hy : 0 ≤ y ∧ y ≤ 1152921504606846976) :
    math_bits_Mul64.f x y = some (x * y / 18446744073709551616, x * y % 18446744073709551616) := by
  unfold math_bits_Mul64.f
  have hf : ∀ v : Int, v.fdiv (2 ^ min (32 : Int).toNat IntKind.u64.bits) = v / 4294967296 := by
    intro v
    rw [show (2 : Int) ^ min (32 : Int).toNat IntKind.u64.bits = 4294967296 by decide +kernel, Int.fdiv_eq_ediv_of_nonneg _ (by decide)]
  simp only [hf]
  have hs := mul_split x y (x / 4294967296) (x % 4294967296) (y / 4294967296) (y % 4294967296) (by omega) (by omega)
  have p11 := prod_le (a := x / 4294967296) (b := y / 4294967296) (c := 268435456) (d := 268435456) (by omega) (by omega) (by omega) (by omega)
  have p10 := prod_le (a := x / 4294967296) (b := y % 4294967296) (c := 268435456) (d := 4294967295) (by omega) (by omega) (by omega) (by omega)
  have p01 := prod_le (a := x % 4294967296) (b := y / 4294967296) (c := 4294967295) (d := 268435456) (by omega) (by omega) (by omega) (by omega)
  have p00 := prod_le (a := x % 4294967296) (b := y % 4294967296) (c := 4294967295) (d := 4294967295) (by omega) (by omega) (by omega) (by omega)
  simp only [and_mask x hx.1 (by omega), and_mask y hy.1 (by omega)]
  generalize x / 4294967296 * (y / 4294967296) = q11 at *
  generalize x / 4294967296 * (y % 4294967296) = q10 at *
  generalize x % 4294967296 * (y / 4294967296) = q01 at *
  generalize x % 4294967296 * (y % 4294967296) = q00 at *
  rw [hs]
  simp only [u64_wrap]
  have w0 : q00 % 18446744073709551616 = q00 := by omega
  have w1 : q10 % 18446744073709551616 = q10 := by omega
  have w2 : q01 % 18446744073709551616 = q01 := by omega
  have w3 : q11 % 18446744073709551616 = q11 := by omega
  rw [w0, w1, w2, w3]
  rw [and_mask _ (by omega) (by omega)]
  congr 2 <;> omega

theorem size_tells (a : Int) (h : -1152921504606846976 ≤ a ∧ a ≤ 1152921504606846976) : pack_size.f a = some (a.natAbs : Int) := by
  unfold pack_size.f
  split
  · rw [wrap64_id (by omega) (by omega), u64_wrap]
    congr 1
    omega
  · rw [u64_wrap]
    congr 1
    omega

theorem times_tells (a b : Int) :
    pack_Times.f a b = some (if (-1152921504606846976 ≤ a ∧ a ≤ 1152921504606846976) ∧ (-1152921504606846976 ≤ b ∧ b ≤ 1152921504606846976) then (if -1152921504606846976 ≤ a * b ∧ a * b ≤ 1152921504606846976 then (a * b, 0) else (0, 2)) else (0, 1)) := by
  simp only [pack_Times.f, may_tells, Option.bind_some]
  by_cases h1 : -1152921504606846976 ≤ a ∧ a ≤ 1152921504606846976
  · by_cases h2 : -1152921504606846976 ≤ b ∧ b ≤ 1152921504606846976
    · simp only [size_tells a h1, size_tells b h2, Option.bind_some, decide_eq_true h1, decide_eq_true h2, if_true]
      have h12 : (-1152921504606846976 ≤ a ∧ a ≤ 1152921504606846976) ∧ (-1152921504606846976 ≤ b ∧ b ≤ 1152921504606846976) := ⟨h1, h2⟩
      rw [mul64_tells _ _ ⟨by omega, by omega⟩ ⟨by omega, by omega⟩, if_pos h12]
      have e : (a.natAbs : Int) * (b.natAbs : Int) = ((a * b).natAbs : Int) := by rw [Int.natAbs_mul, Int.natCast_mul]
      simp only [Option.bind_some, Bool.false_eq_true, if_false]
      rw [e]
      generalize hp : a * b = p at *
      by_cases h3 : -1152921504606846976 ≤ p ∧ p ≤ 1152921504606846976
      · rw [if_neg (by omega), if_neg (by omega), if_pos h3, wrap64_id (by omega) (by omega)]
      · rw [if_neg h3]
        by_cases h4 : (p.natAbs : Int) / 18446744073709551616 > 0
        · rw [if_pos h4]
        · rw [if_neg h4, if_pos (by omega)]
    · simp [h1, h2]
  · simp [h1]
theorem new_tells (m p u : Int) : pay_New.f m p u = some (if 1 ≤ m ∧ m ≤ 1073741824 ∧ 1 ≤ p ∧ p ≤ 1073741824 ∧ 0 ≤ u ∧ u ≤ 1099511627776 then (if m * p > 1125899906842624 then (0, 0, 0, 0, 2) else (m * p, 0, u, 1, 0)) else (0, 0, 0, 0, 1)) := by
  simp only [pay_New.f, units_tells, time_tells, Option.bind_some, decide_eq_true_eq, times_tells]
  by_cases h1 : 1 ≤ m ∧ m ≤ 1073741824
  · by_cases h2 : 1 ≤ p ∧ p ≤ 1073741824
    · by_cases h3 : 0 ≤ u ∧ u ≤ 1099511627776
      · have h4 := prod_le (a := m) (b := p) (c := 1073741824) (d := 1073741824) (by omega) (by omega) h1.2 h2.2
        have h5 : m * p ≤ 1152921504606846976 := by omega
        have h6 : -1152921504606846976 ≤ m * p := by omega
        have h7 : -1152921504606846976 ≤ m ∧ m ≤ 1152921504606846976 := by omega
        have h8 : -1152921504606846976 ≤ p ∧ p ≤ 1152921504606846976 := by omega
        simp only [h1, h2, h3, h5, h6, h7, h8, true_and, and_true, and_self, if_true, Option.bind_some, decide_true, Bool.not_true, Bool.false_eq_true, if_false]
        split <;> rfl
      · have hn : ¬ (1 ≤ m ∧ m ≤ 1073741824 ∧ 1 ≤ p ∧ p ≤ 1073741824 ∧ 0 ≤ u ∧ u ≤ 1099511627776) := by omega
        rw [if_pos h1, if_pos h2]
        refine Eq.trans ?_ (congrArg some (if_neg hn).symm)
        simp only [h3, if_false]
    · have hn : ¬ (1 ≤ m ∧ m ≤ 1073741824 ∧ 1 ≤ p ∧ p ≤ 1073741824 ∧ 0 ≤ u ∧ u ≤ 1099511627776) := by omega
      rw [if_pos h1, if_neg h2]
      refine Eq.trans ?_ (congrArg some (if_neg hn).symm)
      simp only [if_true]
  · have hn : ¬ (1 ≤ m ∧ m ≤ 1073741824 ∧ 1 ≤ p ∧ p ≤ 1073741824 ∧ 0 ≤ u ∧ u ≤ 1099511627776) := by omega
    rw [if_neg h1]
    refine Eq.trans ?_ (congrArg some (if_neg hn).symm)
    simp only [if_true]
variable (id : Int) (it : ByteArray) (rk bo m d p du : Int) (sp : Bool) (ph : Int) (li : ByteArray) (lu lc lk pr pd un st ak am : Int) (en : Bool)
theorem rb_all (h : RB id it rk bo m d p du ph li lu lc lk pr pd un st ak am en = true) : (1 ≤ m ∧ m ≤ 1073741824) ∧ (1 ≤ p ∧ p ≤ 1073741824) ∧ (0 ≤ d ∧ d ≤ m) ∧ Rt pr pd un st ∧ pr = wrap64 (m * p) ∧ pd = wrap64 (d * p) ∧ PH m d it ph li lu lc lk st en = true := by
  unfold RB at h
  simp only [Bool.and_eq_true, decide_eq_true_eq, beq_iff_eq] at h
  exact ⟨h.1.1.1.1.1.1.1.1.1.1, h.1.1.1.1.1.1.1.1.1.2, h.1.1.1.1.1.1.1.1.2, h.1.1.1.1.1.2, h.1.1.1.1.2, h.1.1.1.2, h.2⟩
theorem rb_two (h : RB id it rk bo m d p du 2 li lu lc lk pr pd un st ak am en = true) : st ≠ 3 ∧ 1 ≤ lc ∧ lc ≤ m - d := by
  obtain ⟨h1, h2, h3, _, _, _, hP⟩ := rb_all id it rk bo m d p du 2 li lu lc lk pr pd un st ak am en h
  unfold PH LD at hP
  have hw : wrap64 (m - d) = m - d := wrap64_id (by omega) (by omega)
  rw [hw] at hP
  simp at hP
  omega
theorem rb_one (hp : ph ≤ 2) (hp2 : ph ≠ 2) (h : RB id it rk bo m d p du ph li lu lc lk pr pd un st ak am en = true) : st ≠ 3 := by
  obtain ⟨_, _, _, _, _, _, hP⟩ := rb_all id it rk bo m d p du ph li lu lc lk pr pd un st ak am en h
  unfold PH at hP
  by_cases h1 : ph = 1
  · rw [if_pos h1] at hP
    simp at hP
    exact hP.2
  · rw [if_neg h1, if_neg hp2, if_neg (by omega), if_neg (by omega), if_neg (by omega)] at hP
    cases hP
theorem close_tells (h : Rt pr pd un st) (h3 : st ≠ 3) : pay_Close.f pr pd un st = some (pr, pd, un, 3, 0) := by
  unfold pay_Close.f pay_asked_Pay_s53.f pay_Close_1.f pay_when.f
  rw [right_tells, decide_eq_true h]
  have : (st != 3) = true := by simpa using h3
  rw [this]
  rfl
theorem catch_tells (n : Int) (h : Rt pr pd un st) (h3 : st ≠ 3) (hn : 0 ≤ n) (hle : n ≤ pr - pd) : pay_Catch.f pr pd un st n = some (pr, pd + n, un, st, 0) := by
  have hr := h
  unfold Rt at hr
  unfold pay_Catch.f pay_asked_Pay.f pay_Catch_1.f pay_when.f
  rw [right_tells, decide_eq_true h, if_neg (by omega), if_neg h3]
  have hw : wrap64 (pr - pd) = pr - pd := wrap64_id (by omega) (by omega)
  have hw2 : wrap64 (pd + n) = pd + n := wrap64_id (by omega) (by omega)
  rw [hw, hw2, decide_eq_true hle]
  rfl
theorem send_tells (k : Nat) (hk : 20 ≤ k) (hi : it.size ≤ 18) (hs : li.size ≤ 18) (z : ByteArray) (hz : z.size ≤ 18) (z1 z2 z3 : Int) : ∃ x0 x1 x2 x3 x4 x5 x6 x7 x8 x9 xa xb xc xd xe xf y0 y1 y2 y3 y4 e g,
    order_Send.f k id it rk bo m d p du sp ph li lu lc lk pr pd un st ak am en z z1 z2 z3 = some (x0, x1, x2, x3, x4, x5, x6, x7, x8, x9, xa, xb, xc, xd, xe, xf, y0, y1, y2, y3, y4, e) ∧
    tarryref13_Send.f k id it rk bo m d p du sp ph li lu lc lk pr pd un st ak am en z z1 z2 z3 = some (x0, x1, x2, x3, x4, x5, x6, x7, x8, x9, xa, xb, xc, xd, xe, xf, y0, y1, y2, y3, y4, g, e) := by
  unfold order_Send.f tarryref13_Send.f
  simp only [oright_tells _ _ _ _ _ _ _ _ _ _ _ _ _ _ _ _ _ _ _ _ _ k hk, rright_tells _ _ _ _ _ _ _ _ _ _ _ _ _ _ _ _ _ _ _ _ _ k hk hi hs, rright_tells _ _ _ _ _ _ _ _ _ _ _ _ _ _ _ _ _ _ _ _ _ k hk hi hz, Option.bind_some]
  cases RB id it rk bo m d p du ph li lu lc lk pr pd un st ak am en with
  | false => exact ⟨_, _, _, _, _, _, _, _, _, _, _, _, _, _, _, _, _, _, _, _, _, _, _, rfl, rfl⟩
  | true =>
    by_cases h1 : ph = 1
    · simp only [if_pos h1, reduceIte]
      cases RB id it rk bo m d p du 2 z z1 z2 z3 pr pd un st ak am en <;> exact ⟨_, _, _, _, _, _, _, _, _, _, _, _, _, _, _, _, _, _, _, _, _, _, _, rfl, rfl⟩
    · simp only [if_neg h1, reduceIte]
      exact ⟨_, _, _, _, _, _, _, _, _, _, _, _, _, _, _, _, _, _, _, _, _, _, _, rfl, rfl⟩
theorem came_tells (k : Nat) (hk : 20 ≤ k) (hi : it.size ≤ 18) (hs : li.size ≤ 18) : ∃ x0 x1 x2 x3 x4 x5 x6 x7 x8 x9 xa xb xc xd xe xf y0 y1 y2 y3 y4 e g,
    order_Came.f k id it rk bo m d p du sp ph li lu lc lk pr pd un st ak am en = some (x0, x1, x2, x3, x4, x5, x6, x7, x8, x9, xa, xb, xc, xd, xe, xf, y0, y1, y2, y3, y4, g, e) ∧
    tarryref13_Came.f k id it rk bo m d p du sp ph li lu lc lk pr pd un st ak am en = some (x0, x1, x2, x3, x4, x5, x6, x7, x8, x9, xa, xb, xc, xd, xe, xf, y0, y1, y2, y3, y4, g, e) := by
  unfold order_Came.f tarryref13_Came.f
  simp only [oright_tells _ _ _ _ _ _ _ _ _ _ _ _ _ _ _ _ _ _ _ _ _ k hk, rright_tells _ _ _ _ _ _ _ _ _ _ _ _ _ _ _ _ _ _ _ _ _ k hk hi hs, Option.bind_some]
  cases hB : RB id it rk bo m d p du ph li lu lc lk pr pd un st ak am en with
  | false => exact ⟨_, _, _, _, _, _, _, _, _, _, _, _, _, _, _, _, _, _, _, _, _, _, _, rfl, rfl⟩
  | true =>
    by_cases h2 : ph = 2
    · subst h2
      obtain ⟨h1, h2, h3, hR, hpr, hpd, _⟩ := rb_all id it rk bo m d p du 2 li lu lc lk pr pd un st ak am en hB
      obtain ⟨h4, h5, h6⟩ := rb_two id it rk bo m d p du li lu lc lk pr pd un st ak am en hB
      have q1 := prod_le (a := m) (b := p) (c := 1073741824) (d := 1073741824) (by omega) (by omega) h1.2 h2.2
      have q2 := prod_le (a := d) (b := p) (c := m) (d := p) (by omega) (by omega) (by omega) (by omega)
      have q3 := prod_le (a := lc) (b := p) (c := m - d) (d := p) (by omega) (by omega) (by omega) (by omega)
      have q4 : (m - d) * p = m * p - d * p := Int.sub_mul _ _ _
      have w1 : wrap64 (m * p) = m * p := wrap64_id (by omega) (by omega)
      have w2 : wrap64 (d * p) = d * p := wrap64_id (by omega) (by omega)
      have w3 : wrap64 (lc * p) = lc * p := wrap64_id (by omega) (by omega)
      have w4 : wrap64 (d + lc) = d + lc := wrap64_id (by omega) (by omega)
      rw [w1] at hpr
      rw [w2] at hpd
      have hle : lc * p ≤ pr - pd := by omega
      have w5 : wrap64 (pd + lc * p) = pd + lc * p := wrap64_id (by omega) (by omega)
      have hR2 : Rt pr (pd + lc * p) un st := by unfold Rt at hR ⊢; omega
      have hc := close_tells pr (pd + lc * p) un st hR2 h4
      simp only [if_true, w3, w4, w5, catch_tells pr pd un st (lc * p) hR h4 q3.1 hle, Option.bind_some, order_over.f, hc]
      by_cases h7 : d + lc = m
      · simp only [if_pos h7]
        exact ⟨_, _, _, _, _, _, _, _, _, _, _, _, _, _, _, _, _, _, _, _, _, _, _, rfl, rfl⟩
      · simp only [if_neg h7]
        cases en <;> exact ⟨_, _, _, _, _, _, _, _, _, _, _, _, _, _, _, _, _, _, _, _, _, _, _, rfl, rfl⟩
    · simp only [if_neg h2, reduceIte]
      exact ⟨_, _, _, _, _, _, _, _, _, _, _, _, _, _, _, _, _, _, _, _, _, _, _, rfl, rfl⟩
theorem open_tells (k : Nat) (hk : 20 ≤ k) : order_Open.f k id it rk bo m d p du sp ph li lu lc lk pr pd un st ak am en = some (RB id it rk bo m d p du ph li lu lc lk pr pd un st ak am en && decide (ph ≤ 2)) := by
  unfold order_Open.f
  rw [oright_tells _ _ _ _ _ _ _ _ _ _ _ _ _ _ _ _ _ _ _ _ _ k hk, Option.bind_some]
  cases RB id it rk bo m d p du ph li lu lc lk pr pd un st ak am en <;> rfl
theorem end_tells (k : Nat) (hk : 20 ≤ k) (hi : it.size ≤ 18) (hs : li.size ≤ 18) : ∃ x0 x1 x2 x3 x4 x5 x6 x7 x8 x9 xa xb xc xd xe xf y0 y1 y2 y3 y4 e g,
    order_End.f k id it rk bo m d p du sp ph li lu lc lk pr pd un st ak am en = some (x0, x1, x2, x3, x4, x5, x6, x7, x8, x9, xa, xb, xc, xd, xe, xf, y0, y1, y2, y3, y4, e) ∧
    tarryref13_End.f k id it rk bo m d p du sp ph li lu lc lk pr pd un st ak am en = some (x0, x1, x2, x3, x4, x5, x6, x7, x8, x9, xa, xb, xc, xd, xe, xf, y0, y1, y2, y3, y4, g, e) := by
  unfold order_End.f tarryref13_End.f
  simp only [oright_tells _ _ _ _ _ _ _ _ _ _ _ _ _ _ _ _ _ _ _ _ _ k hk, open_tells _ _ _ _ _ _ _ _ _ _ _ _ _ _ _ _ _ _ _ _ _ k hk, rright_tells _ _ _ _ _ _ _ _ _ _ _ _ _ _ _ _ _ _ _ _ _ k hk hi hs, Option.bind_some]
  cases hB : RB id it rk bo m d p du ph li lu lc lk pr pd un st ak am en with
  | false => exact ⟨_, _, _, _, _, _, _, _, _, _, _, _, _, _, _, _, _, _, _, _, _, _, _, rfl, rfl⟩
  | true =>
    by_cases h2 : ph ≤ 2
    · rw [decide_eq_true h2, if_neg (show ¬ ph > 2 by omega)]
      cases en with
      | true => exact ⟨_, _, _, _, _, _, _, _, _, _, _, _, _, _, _, _, _, _, _, _, _, _, _, rfl, rfl⟩
      | false =>
        by_cases h3 : ph = 2
        · simp only [if_pos h3, Bool.and_self, reduceIte, Bool.false_eq_true]
          exact ⟨_, _, _, _, _, _, _, _, _, _, _, _, _, _, _, _, _, _, _, _, _, _, _, rfl, rfl⟩
        · obtain ⟨_, _, _, hR, _, _, _⟩ := rb_all id it rk bo m d p du ph li lu lc lk pr pd un st ak am false hB
          have hc := close_tells pr pd un st hR (rb_one id it rk bo m d p du ph li lu lc lk pr pd un st ak am false h2 h3 hB)
          simp only [if_neg h3, Bool.and_self, reduceIte, Bool.false_eq_true, order_over.f, hc, Option.bind_some]
          by_cases h4 : d > 0
          · simp only [if_pos h4]
            exact ⟨_, _, _, _, _, _, _, _, _, _, _, _, _, _, _, _, _, _, _, _, _, _, _, rfl, rfl⟩
          · simp only [if_neg h4]
            exact ⟨_, _, _, _, _, _, _, _, _, _, _, _, _, _, _, _, _, _, _, _, _, _, _, rfl, rfl⟩
    · rw [decide_eq_false h2, if_pos (show ph > 2 by omega)]
      exact ⟨_, _, _, _, _, _, _, _, _, _, _, _, _, _, _, _, _, _, _, _, _, _, _, rfl, rfl⟩
theorem alive_tells : tarrylaw13_alive.f 100 = some true := by decide +kernel
theorem cut_size (s : ByteArray) : 0 ≤ mn (s.size : Int) 18 ∧ mn (s.size : Int) 18 ≤ s.size ∧ (s.extract 0 (mn (s.size : Int) 18).toNat).size ≤ 18 := by
  rw [ByteArray.size_extract]
  unfold mn
  split <;> refine ⟨by omega, by omega, by omega⟩
theorem bself (x : ByteArray) : (x == x) = true := by rw [beq_is, decide_eq_true rfl]
theorem OrderGoes : tarrylaw13_OrderGoes.Pure := by
  unfold tarrylaw13_OrderGoes.Pure
  intro id it rk bo m d p du sp ph li lu lc lk pr pd un st ak am en z z1 z2 z3 _ _ _ _ _ _ _ _ _ _ _ _ _ _ _ _ _ _ _ _ _ _ _
  refine ⟨100, ?_⟩
  obtain ⟨c1, c2, c3⟩ := cut_size it
  obtain ⟨c4, c5, c6⟩ := cut_size li
  obtain ⟨c7, c8, c9⟩ := cut_size z
  unfold tarrylaw13_OrderGoes.f tarrylaw13_cut.f
  rw [if_pos c1, if_pos c2, if_pos c4, if_pos c5]
  generalize it.extract 0 (mn (it.size : Int) 18).toNat = s at *
  generalize li.extract 0 (mn (li.size : Int) 18).toNat = v at *
  simp only [Option.bind_some]
  rw [if_pos c7, if_pos c8]
  generalize z.extract 0 (mn (z.size : Int) 18).toNat = y at *
  obtain ⟨_, _, _, _, _, _, _, _, _, _, _, _, _, _, _, _, _, _, _, _, _, _, _, hN, hR⟩ := send_tells id s rk bo m d p du sp ph v lu lc lk pr pd un st ak am en 100 (by decide) c3 c6 y c9 z1 z2 z3
  obtain ⟨_, _, _, _, _, _, _, _, _, _, _, _, _, _, _, _, _, _, _, _, _, _, _, hN2, hR2⟩ := came_tells id s rk bo m d p du sp ph v lu lc lk pr pd un st ak am en 100 (by decide) c3 c6
  obtain ⟨_, _, _, _, _, _, _, _, _, _, _, _, _, _, _, _, _, _, _, _, _, _, _, hN3, hR3⟩ := end_tells id s rk bo m d p du sp ph v lu lc lk pr pd un st ak am en 100 (by decide) c3 c6
  simp only [hN, hR, hN2, hR2, hN3, hR3, Option.bind_some, alive_tells, bself, beq_self_eq_true, Bool.and_self, if_true]
end Go.Proofs.Ytlmpfogfgefngaa.Pure
