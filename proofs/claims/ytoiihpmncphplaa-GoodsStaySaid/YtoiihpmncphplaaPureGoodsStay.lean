/- GoodsStay: what may be stays such; rules put in either order make the same goods; each rule that is put is among those of its name, and alone of its rank; no further condition. -/
import Derived.Test.YtoiihpmncphplaaRGoodsStay
namespace Go.Proofs.Ytoiihpmncphplaa.Pure
open Go Go.RowKit Go.Proofs.Ytoiihpmncphplaa.PGoodsStay Go.Proofs.YtoiihpmncphplaaV 
set_option linter.unusedSimpArgs false
set_option linter.unusedVariables false
theorem take_drop0 {α : Type} (l : List α) (i : Nat) : (l.take i).drop 0 = l.take i := rfl
theorem w64n {n : Int} (h1 : -9000000000000000000 ≤ n) (h2 : n ≤ 9000000000000000000) : wrap64 n = n := by unfold wrap64; omega
/-- A binary search's middle. -/
theorem mid_is {i j : Nat} (hi : i ≤ 1000000) (hj : j ≤ 1000000) : wrap64 ((IntKind.u64.wrap (wrap64 ((i : Int) + (j : Int)))).fdiv (2 ^ min (1 : Int).toNat IntKind.u64.bits)) = (((i + j) / 2 : Nat) : Int) := by
  have e1 : wrap64 ((i : Int) + (j : Int)) = ((i + j : Nat) : Int) := by unfold wrap64; omega
  have e2 : IntKind.u64.wrap ((i + j : Nat) : Int) = ((i + j : Nat) : Int) := by
    have h : IntKind.u64.wrap ((i + j : Nat) : Int) = ((i + j : Nat) : Int) % 18446744073709551616 := rfl
    rw [h]
    omega
  have e3 : (2 : Int) ^ min (1 : Int).toNat IntKind.u64.bits = 2 := by decide
  rw [e1, e2, e3, Int.fdiv_eq_ediv_of_nonneg _ (by decide)]
  unfold wrap64
  omega
/-- The things ahead of the first one that is not so. -/
theorem tw_len_le {α : Type} (p : α → Bool) (l : List α) : (l.takeWhile p).length ≤ l.length := by
  induction l with
  | nil => simp
  | cons x xs ih => rw [List.takeWhile_cons]; split <;> simp <;> omega
theorem tw_lt {α : Type} (p : α → Bool) : ∀ (l : List α) (i : Nat) (x : α), l[i]? = some x → i < (l.takeWhile p).length → p x = true
  | [], i, x, h, _ => by simp at h
  | y :: l, 0, x, h, hi => by
    simp only [List.getElem?_cons_zero, Option.some.injEq] at h
    subst h
    rw [List.takeWhile_cons] at hi
    by_cases hp : p y = true
    · exact hp
    · rw [if_neg hp] at hi; simp at hi
  | y :: l, i + 1, x, h, hi => by
    simp only [List.getElem?_cons_succ] at h
    rw [List.takeWhile_cons] at hi
    split at hi
    · exact tw_lt p l i x h (by simpa using hi)
    · simp at hi
theorem tw_at {α : Type} (p : α → Bool) : ∀ (l : List α) (x : α), l[(l.takeWhile p).length]? = some x → p x = false
  | [], x, h => by simp at h
  | y :: l, x, h => by
    rw [List.takeWhile_cons] at h
    by_cases hp : p y = true
    · rw [if_pos hp] at h
      simp only [List.length_cons, List.getElem?_cons_succ] at h
      exact tw_at p l x h
    · rw [if_neg hp] at h
      simp only [List.length_nil, List.getElem?_cons_zero, Option.some.injEq] at h
      subst h
      simpa using hp
/-- Where what is so stands ahead of what is not. -/
def Downs {α : Type} (p : α → Bool) (l : List α) : Prop := ∀ (i j : Nat) (x y : α), i < j → l[i]? = some x → l[j]? = some y → p y = true → p x = true
theorem tw_ge {α : Type} {p : α → Bool} {l : List α} (h : Downs p l) {i : Nat} {x : α} (hx : l[i]? = some x) (hi : (l.takeWhile p).length ≤ i) : p x = false := by
  have hl := (List.getElem?_eq_some_iff.1 hx).1
  obtain ⟨y, hn⟩ : ∃ y, l[(l.takeWhile p).length]? = some y := ⟨_, List.getElem?_eq_getElem (by omega)⟩
  have h0 := tw_at p l _ hn
  rcases Nat.lt_or_eq_of_le hi with h1 | h1
  · cases hp : p x with
    | false => rfl
    | true => rw [h _ _ _ _ h1 hn hx hp] at h0; cases h0
  · rw [h1, hx] at hn
    obtain rfl := Option.some.inj hn
    exact h0
theorem take_tw {α : Type} (p : α → Bool) (l : List α) : l.take (l.takeWhile p).length = l.takeWhile p := by
  induction l with
  | nil => rfl
  | cons x xs ih => rw [List.takeWhile_cons]; split <;> simp [ih]
theorem drop_tw {α : Type} (p : α → Bool) (l : List α) : l.drop (l.takeWhile p).length = l.dropWhile p := by
  induction l with
  | nil => rfl
  | cons x xs ih => rw [List.takeWhile_cons, List.dropWhile_cons]; split <;> simp [ih]
theorem pw_get {α : Type} {R : α → α → Prop} {l : List α} (h : l.Pairwise R) {i j : Nat} {x y : α} (hij : i < j) (hx : l[i]? = some x) (hy : l[j]? = some y) : R x y := by
  obtain ⟨h1, rfl⟩ := List.getElem?_eq_some_iff.1 hx
  obtain ⟨h2, rfl⟩ := List.getElem?_eq_some_iff.1 hy
  exact List.pairwise_iff_getElem.1 h i j h1 h2 hij
theorem pw_of_get {α : Type} {R : α → α → Prop} {l : List α} (h : ∀ (i j : Nat) (x y : α), i < j → l[i]? = some x → l[j]? = some y → R x y) : l.Pairwise R :=
  List.pairwise_iff_getElem.2 fun i j h1 h2 hij => h i j _ _ hij (List.getElem?_eq_getElem h1) (List.getElem?_eq_getElem h2)
theorem drop_cons_is {α : Type} {l : List α} {i : Nat} {x : α} {xs : List α} (h : l.drop i = x :: xs) : i < l.length ∧ l[i]? = some x ∧ l.drop (i + 1) = xs := by
  have h1 : i < l.length := by have := congrArg List.length h; simp at this; omega
  rw [List.drop_eq_getElem_cons h1] at h
  obtain ⟨h2, h3⟩ := List.cons.inj h
  exact ⟨h1, by rw [List.getElem?_eq_getElem h1, h2], h3⟩
theorem drop_nil_is {α : Type} {l : List α} {i : Nat} (h : l.drop i = []) : l.length ≤ i := by have := congrArg List.length h; simp at this; omega
theorem filter_split {α : Type} (p : α → Bool) (l : List α) : (l.filter p).length + (l.filter (fun x => !p x)).length = l.length := by
  induction l with
  | nil => rfl
  | cons x xs ih => by_cases h : p x = true <;> simp [List.filter_cons, h] <;> omega
theorem mem_tw_dw {α : Type} (p : α → Bool) (l : List α) (y : α) : (y ∈ l.takeWhile p ∨ y ∈ l.dropWhile p) ↔ y ∈ l := by
  rw [← List.mem_append, List.takeWhile_append_dropWhile]
theorem mem_tw {α : Type} {p : α → Bool} {l : List α} {y : α} (h : y ∈ l.takeWhile p) : p y = true := by
  obtain ⟨i, hi⟩ := List.getElem?_of_mem h
  have hlt := (List.getElem?_eq_some_iff.1 hi).1
  rw [← take_tw, List.getElem?_take, if_pos hlt] at hi
  exact tw_lt p l i y hi hlt
theorem mem_dw {α : Type} {p : α → Bool} {l : List α} (hd : Downs p l) {y : α} (h : y ∈ l.dropWhile p) : p y = false := by
  obtain ⟨i, hi⟩ := List.getElem?_of_mem h
  rw [← drop_tw, List.getElem?_drop] at hi
  exact tw_ge hd hi (by omega)
/-- Two rows that rise, of the same things, are the same row. -/
theorem eq_of_rise {α : Type} {R : α → α → Prop} (irr : ∀ a b, R a b → ¬ R b a) : ∀ (l l' : List α), l.Pairwise R → l'.Pairwise R → (∀ x, x ∈ l ↔ x ∈ l') → l = l'
  | [], [], _, _, _ => rfl
  | [], b :: l', _, _, h => by have := (h b).2 (by simp); cases this
  | a :: l, [], _, _, h => by have := (h a).1 (by simp); cases this
  | a :: l, b :: l', h1, h2, h => by
    rw [List.pairwise_cons] at h1 h2
    have hab : a = b := by
      rcases List.mem_cons.1 ((h a).1 (by simp)) with e | e
      · exact e
      rcases List.mem_cons.1 ((h b).2 (by simp)) with e2 | e2
      · exact e2.symm
      exact absurd (h1.1 b e2) (irr _ _ (h2.1 a e))
    subst hab
    have hna : ∀ x, R x x → False := fun x hx => irr x x hx hx
    rw [eq_of_rise irr l l' h1.2 h2.2 fun x => ⟨fun hx => ?_, fun hx => ?_⟩]
    · rcases List.mem_cons.1 ((h x).1 (by simp [hx])) with e | e
      · subst e; exact absurd (h1.1 _ hx) (hna _)
      · exact e
    · rcases List.mem_cons.1 ((h x).2 (by simp [hx])) with e | e
      · subst e; exact absurd (h2.1 _ hx) (hna _)
      · exact e
theorem filter_tw {α : Type} {p : α → Bool} : ∀ {l : List α}, Downs p l → l.filter p = l.takeWhile p
  | [], _ => rfl
  | x :: xs, h => by
    by_cases hx : p x = true
    · rw [List.filter_cons, if_pos hx, List.takeWhile_cons, if_pos hx, filter_tw (l := xs) fun i j a b hij ha hb hp => h (i + 1) (j + 1) a b (by omega) (by simpa using ha) (by simpa using hb) hp]
    · rw [List.takeWhile_cons, if_neg hx, List.filter_eq_nil_iff]
      intro y hy hp
      obtain ⟨j, hj⟩ := List.getElem?_of_mem hy
      cases j with
      | zero => simp at hj; subst hj; exact hx hp
      | succ j => exact hx (h 0 (j + 1) x y (by omega) rfl hj hp)
theorem tw_mono {α : Type} {p q : α → Bool} (h : ∀ x, p x = true → q x = true) (l : List α) : (l.takeWhile p).length ≤ (l.takeWhile q).length := by
  induction l with
  | nil => simp
  | cons x xs ih =>
    rw [List.takeWhile_cons, List.takeWhile_cons]
    by_cases hx : p x = true
    · rw [if_pos hx, if_pos (h x hx)]; simp; omega
    · rw [if_neg hx]; simp
theorem pw_of_adj {α : Type} {R : α → α → Prop} (tr : ∀ {a b c}, R a b → R b c → R a c) {l : List α} (h : ∀ (i : Nat) (x y : α), l[i]? = some x → l[i + 1]? = some y → R x y) : l.Pairwise R := by
  have hall : ∀ (d i : Nat) (x y : α), l[i]? = some x → l[i + 1 + d]? = some y → R x y := by
    intro d
    induction d with
    | zero => intro i x y hx hy; exact h i x y hx hy
    | succ d ih =>
      intro i x y hx hy
      have hlt := (List.getElem?_eq_some_iff.1 hy).1
      have hz : l[i + 1 + d]? = some l[i + 1 + d] := List.getElem?_eq_getElem (by omega)
      exact tr (ih i x _ hx hz) (h (i + 1 + d) _ y hz hy)
  exact pw_of_get fun i j x y hij hx hy => hall (j - i - 1) i x y hx (by rw [show i + 1 + (j - i - 1) = j by omega]; exact hy)
theorem ba_toList_loop (a : ByteArray) : ∀ (d i : Nat) (r : List UInt8), a.size - i = d → ByteArray.toList.loop a i r = r.reverse ++ a.data.toList.drop i := by
  intro d
  induction d with
  | zero =>
    intro i r h
    unfold ByteArray.toList.loop
    have h1 : ¬ i < a.size := by omega
    rw [if_neg h1, List.drop_eq_nil_of_le (by show a.data.toList.length ≤ i; rw [Array.length_toList]; exact Nat.le_of_not_lt h1), List.append_nil]
  | succ d ih =>
    intro i r h
    unfold ByteArray.toList.loop
    have h1 : i < a.size := by omega
    have h2 : i < a.data.toList.length := by rw [Array.length_toList]; exact h1
    rw [if_pos h1, ih (i + 1) _ (by omega), List.reverse_cons, List.append_assoc, List.drop_eq_getElem_cons h2]
    have h3 : a.get! i = a.data.toList[i] := by
      show a.data[i]! = _
      rw [getElem!_pos a.data i h1]
      rfl
    rw [h3]
    rfl
theorem ba_toList (a : ByteArray) : a.toList = a.data.toList := by
  unfold ByteArray.toList
  rw [ba_toList_loop a a.size 0 [] (by omega)]
  rfl
/-! ### texts in order -/
theorem cb_self : ∀ l : List UInt8, Lib.compareBytes l l = 0
  | [] => rfl
  | a :: l => by
    have : ¬ a < a := by simp [UInt8.lt_iff_toNat_lt]
    rw [Lib.compareBytes, if_neg this, if_neg this]
    exact cb_self l
theorem cb_eq : ∀ (a b : List UInt8), Lib.compareBytes a b = 0 → a = b
  | [], [], _ => rfl
  | [], _ :: _, h => by rw [Lib.compareBytes] at h; omega
  | _ :: _, [], h => by rw [Lib.compareBytes] at h; omega
  | a :: xs, b :: ys, h => by
    rw [Lib.compareBytes] at h
    split at h
    · omega
    · split at h
      · omega
      · rename_i h1 h2
        have : a = b := by
          apply UInt8.toNat_inj.1
          simp only [UInt8.lt_iff_toNat_lt] at h1 h2
          omega
        rw [this, cb_eq xs ys h]
theorem cb_anti : ∀ (a b : List UInt8), Lib.compareBytes a b = - Lib.compareBytes b a
  | [], [] => rfl
  | [], _ :: _ => rfl
  | _ :: _, [] => rfl
  | a :: xs, b :: ys => by
    rw [Lib.compareBytes, Lib.compareBytes, cb_anti xs ys]
    simp only [UInt8.lt_iff_toNat_lt]
    split <;> split <;> omega
theorem cb_trans : ∀ (a b c : List UInt8), Lib.compareBytes a b < 0 → Lib.compareBytes b c < 0 → Lib.compareBytes a c < 0
  | [], [], _, h, _ => by rw [Lib.compareBytes] at h; omega
  | [], _ :: _, [], _, h => by rw [Lib.compareBytes] at h; omega
  | [], _ :: _, _ :: _, _, _ => by rw [Lib.compareBytes]; omega
  | _ :: _, [], _, h, _ => by rw [Lib.compareBytes] at h; omega
  | _ :: _, _ :: _, [], _, h => by rw [Lib.compareBytes] at h; omega
  | a :: xs, b :: ys, c :: zs, h1, h2 => by
    have ih := cb_trans xs ys zs
    rw [Lib.compareBytes] at h1 h2 ⊢
    simp only [UInt8.lt_iff_toNat_lt] at *
    split at h1
    · split at h2
      · rw [if_pos (by omega)]; omega
      · split at h2
        · omega
        · rw [if_pos (by omega)]; omega
    · split at h1
      · omega
      · split at h2
        · rw [if_pos (by omega)]; omega
        · split at h2
          · omega
          · rw [if_neg (by omega), if_neg (by omega)]
            exact ih h1 h2
theorem bl_is : ∀ (a b : List UInt8), Op.bytesLess a b = decide (Lib.compareBytes a b < 0)
  | [], [] => rfl
  | [], _ :: _ => rfl
  | _ :: _, [] => rfl
  | a :: xs, b :: ys => by
    rw [Op.bytesLess, Lib.compareBytes, bl_is xs ys]
    simp only [UInt8.lt_iff_toNat_lt]
    by_cases h1 : a.toNat < b.toNat
    · simp [h1]
    · by_cases h2 : b.toNat < a.toNat
      · have : ¬ a = b := fun e => by rw [e] at h2; omega
        simp [h1, h2, this]
      · have : a = b := UInt8.toNat_inj.1 (by omega)
        simp [this]
def sc (a b : ByteArray) : Int := Lib.compareBytes a.data.toList b.data.toList
def sl (a b : ByteArray) : Prop := sc a b < 0
instance (a b : ByteArray) : Decidable (sl a b) := by unfold sl; exact inferInstance
theorem sl_trans {a b c : ByteArray} (h1 : sl a b) (h2 : sl b c) : sl a c := cb_trans _ _ _ h1 h2
theorem sc_self (a : ByteArray) : sc a a = 0 := cb_self _
theorem sc_anti (a b : ByteArray) : sc a b = - sc b a := cb_anti _ _
theorem sc_eq {a b : ByteArray} : sc a b = 0 ↔ a = b := by
  refine ⟨fun h => ?_, fun h => by rw [h]; exact sc_self b⟩
  have := cb_eq _ _ h
  cases a with
  | mk a =>
    cases b with
    | mk b => simpa using this
theorem sl_irr (a : ByteArray) : ¬ sl a a := by unfold sl; rw [sc_self]; decide
theorem sl_asymm {a b : ByteArray} (h : sl a b) : ¬ sl b a := by unfold sl at *; rw [sc_anti b a]; omega
theorem sl_tri {a b : ByteArray} (h : ¬ sl a b) (hne : a ≠ b) : sl b a := by
  unfold sl at *
  rw [sc_anti b a]
  have : sc a b ≠ 0 := fun e => hne (sc_eq.1 e)
  omega
theorem bytesLess_is (a b : ByteArray) : Op.bytesLess a.toList b.toList = decide (sl a b) := by rw [ba_toList, ba_toList]; exact bl_is _ _
/-! ### bytes -/
theorem bt_is {s : ByteArray} {i : Nat} (h : i < s.size) : (byI s)[i]? = some (bt s i) := by
  unfold byI bt
  rw [List.getElem?_map, Array.getElem?_toList, Int.toNat_natCast, dif_pos h]
  have : s.data[i]? = some s.data[i] := Array.getElem?_eq_getElem h
  rw [this]
  rfl
theorem byI_sl (a b : ByteArray) : a.data.toList.map (fun c => (c.toNat : Int)) = byI a := rfl
def charB (c : Int) : Bool := (decide (97 ≤ c) && decide (c ≤ 122)) || (decide (48 ≤ c) && decide (c ≤ 57))
theorem charB_eq (c : Int) : charB c = decide ((97 ≤ c ∧ c ≤ 122) ∨ (48 ≤ c ∧ c ≤ 57)) := by
  unfold charB
  simp only [Bool.decide_or, Bool.decide_and]
/-- May a text be a name? -/
def nm (s : ByteArray) : Bool := decide (s.size ≠ 0) && (decide (s.size ≤ 16) && (byI s).all charB)
theorem beq_is (a b : ByteArray) : (a == b) = decide (a = b) := by
  rw [beq_toListBytes, ba_toList, ba_toList, Bool.eq_iff_iff, beq_iff_eq, decide_eq_true_eq]
  refine ⟨fun h => ?_, fun h => by rw [h]⟩
  cases a with
  | mk a =>
    cases b with
    | mk b => simpa using h
theorem nil_is (s : ByteArray) : (s == (⟨#[]⟩ : ByteArray)) = decide (s.size = 0) := by
  rw [beq_is, decide_eq_decide]
  refine ⟨fun h => by rw [h]; rfl, fun h => ?_⟩
  cases s with
  | mk d =>
    have : d = #[] := Array.eq_empty_of_size_eq_zero h
    rw [this]
theorem odd_tells (c : Int) : goods_name_1.f c = some (!charB c) := by
  unfold goods_name_1.f
  rw [charB_eq]
  by_cases hP : (97 ≤ c ∧ c ≤ 122) ∨ (48 ≤ c ∧ c ≤ 57)
  · rw [decide_eq_true hP]
    (repeat' split) <;> first | rfl | omega | (rw [decide_eq_false (by omega)]; rfl)
  · rw [decide_eq_false hP]
    (repeat' split) <;> first | rfl | omega | (rw [decide_eq_true (by omega)]; rfl)
theorem bytes_tells (k : Nat) (l : List Int) (hk : l.length < k) (hs : l.length < 1000000) : slices_ContainsFunc_byte_byte.f k l = some (l.any (fun c => !charB c)) := by
  have key : ∀ (xs : List Int) (i : Nat), ∃ j, slices_IndexFunc_byte_byte.r1 k l xs i = some j ∧ decide (j ≥ 0) = xs.any (fun c => !charB c) := by
    intro xs
    induction xs with
    | nil => intro i; exact ⟨-1, rfl, rfl⟩
    | cons x xs ih =>
      intro i
      rw [slices_IndexFunc_byte_byte.r1, odd_tells, Option.bind_some, List.any_cons]
      cases charB x with
      | false => exact ⟨i, rfl, by simp⟩
      | true => simpa using ih (i + 1)
  unfold slices_ContainsFunc_byte_byte.f slices_IndexFunc_byte_byte.f
  have := slices_IndexFunc_byte_byte.r1_eq k l (by omega) k 0 (by omega) (by omega)
  rw [show ((0 : Nat) : Int) = 0 from rfl, List.drop_zero] at this
  rw [this]
  obtain ⟨j, h1, h2⟩ := key l 0
  rw [h1, Option.bind_some, h2]
theorem name_tells (k : Nat) (hk : 20 ≤ k) (s : ByteArray) : goods_name.f k s = some (nm s) := by
  unfold goods_name.f nm
  rw [nil_is]
  by_cases h0 : s.size = 0
  · simp [h0]
  · rw [if_neg (by simpa using h0)]
    by_cases h1 : s.size ≤ 16
    · rw [if_pos (by omega), if_pos (by omega), bytes_tells k _ (by rw [byI_len]; omega) (by rw [byI_len]; omega), Option.bind_some]
      have : (byI s).any (fun c => !charB c) = !(byI s).all charB := by rw [List.not_all_eq_any_not]
      rw [this]
      cases (byI s).all charB <;> simp [h0, h1]
    · rw [if_neg (by omega)]
      simp [h1]
theorem csub_nil (k : Nat) : True := trivial
theorem gright_one (k : Nat) (hk : 20 ≤ k) (s : ByteArray) : goods_Right.f k [s] [] = some (nm s) := by
  obtain ⟨k, rfl⟩ : ∃ q, k = q + 2 := ⟨k - 2, by omega⟩
  have h1 : slices_ContainsFunc_string_string.f (k + 2) [s] = some (!nm s) := by
    unfold slices_ContainsFunc_string_string.f slices_IndexFunc_string_string.f
    have := slices_IndexFunc_string_string.r1_eq (k + 2) [s] (by simp) (k + 2) 0 (by simp) (by simp)
    rw [show ((0 : Nat) : Int) = 0 from rfl, List.drop_zero] at this
    rw [this, slices_IndexFunc_string_string.r1, goods_Right_2.f, name_tells (k + 2) hk, Option.bind_some]
    cases nm s <;> rfl
  have h2 : goods_rising_string.f (k + 2) [s] 8 = some true := by
    unfold goods_rising_string.f
    rw [goods_rising_string.l1, if_neg (by simp)]
    rfl
  have h3 : goods_rising_Sub.f (k + 2) [] 16 = some true := by
    unfold goods_rising_Sub.f
    rw [goods_rising_Sub.l1, if_neg (by simp)]
    rfl
  unfold goods_Right.f
  rw [goods_Right.l1, if_neg (by simp), h1, Option.bind_some, h2, Option.bind_some, h3]
  cases nm s <;> rfl
/-! ### what is what -/
def sb (a b : S22) : Prop := sl a.f0 b.f0 ∨ (a.f0 = b.f0 ∧ a.f2 < b.f2)
instance (a b : S22) : Decidable (sb a b) := by unfold sb; exact inferInstance
theorem sb_trans {a b c : S22} (h1 : sb a b) (h2 : sb b c) : sb a c := by
  unfold sb at *
  rcases h1 with h1 | ⟨e1, h1⟩
  · rcases h2 with h2 | ⟨e2, h2⟩
    · exact .inl (sl_trans h1 h2)
    · exact .inl (e2 ▸ h1)
  · rcases h2 with h2 | ⟨e2, h2⟩
    · exact .inl (e1 ▸ h2)
    · exact .inr ⟨e1.trans e2, by omega⟩
theorem sb_asymm {a b : S22} (h : sb a b) : ¬ sb b a := by
  unfold sb at *
  rcases h with h | ⟨e, h⟩
  · rintro (h2 | ⟨e2, h2⟩)
    · exact sl_asymm h h2
    · rw [e2] at h; exact sl_irr _ h
  · rintro (h2 | ⟨e2, h2⟩)
    · rw [e] at h2; exact sl_irr _ h2
    · omega
theorem sb_tri {a b : S22} (h : ¬ sb a b) (hne : ¬ (a.f0 = b.f0 ∧ a.f2 = b.f2)) : sb b a := by
  unfold sb at *
  by_cases e : a.f0 = b.f0
  · exact .inr ⟨e.symm, by
      have h1 : ¬ a.f2 < b.f2 := fun q => h (.inr ⟨e, q⟩)
      have h2 : a.f2 ≠ b.f2 := fun q => hne ⟨e, q⟩
      omega⟩
  · exact .inl (sl_tri (fun q => h (.inl q)) e)
def MAY (s : S22) : Bool := nm s.f0 && (nm s.f1 && (!(s.f0 == s.f1) && (decide (1 ≤ s.f2 ∧ s.f2 ≤ 9) && (decide (1 ≤ s.f3 ∧ s.f3 ≤ 100) && decide (1 ≤ s.f4 ∧ s.f4 ≤ 100)))))
def has (l : List ByteArray) (s : ByteArray) : Bool := l.any (fun x => x == s)
def tw (a b : S22) : Bool := (a.f0 == b.f0) && (a.f1 == b.f1)
def lk (a b : S22) : Bool := (a.f0 == b.f0) && ((a.f2 == b.f2) || (a.f1 == b.f1))
theorem beq_comm' (a b : ByteArray) : (a == b) = (b == a) := by rw [beq_is, beq_is, decide_eq_decide]; exact ⟨fun h => h.symm, fun h => h.symm⟩
structure Rt (sk : List ByteArray) (su : List S22) : Prop where
  n1 : ∀ s ∈ sk, nm s = true
  u1 : sk.Pairwise sl
  l1 : sk.length ≤ 8
  n2 : ∀ s ∈ su, MAY s = true ∧ has sk s.f0 = true ∧ has sk s.f1 = true
  u2 : su.Pairwise sb
  d2 : su.Pairwise (fun a b => tw a b = false)
  l2 : su.length ≤ 16
/-- Each of the one ahead of it. -/
def Adj {α : Type} (R : α → α → Prop) : Option α → List α → Prop
  | _, [] => True
  | p, x :: xs => (∀ q, p = some q → R q x) ∧ Adj R (some x) xs
theorem adj_some {α : Type} {R : α → α → Prop} (tr : ∀ {a b c}, R a b → R b c → R a c) : ∀ (xs : List α) (p : α), Adj R (some p) xs ↔ (p :: xs).Pairwise R
  | [], p => by simp [Adj]
  | x :: xs, p => by
    rw [Adj, adj_some (R := R) (fun h1 h2 => tr h1 h2) xs x, List.pairwise_cons (a := p)]
    constructor
    · rintro ⟨h1, h2⟩
      have hp := h1 p rfl
      refine ⟨fun y hy => ?_, h2⟩
      rcases List.mem_cons.1 hy with rfl | hy
      · exact hp
      · exact tr hp ((List.pairwise_cons.1 h2).1 y hy)
    · rintro ⟨h1, h2⟩
      exact ⟨fun q e => by cases e; exact h1 x (by simp), h2⟩
theorem adj_none {α : Type} {R : α → α → Prop} (tr : ∀ {a b c}, R a b → R b c → R a c) : ∀ (xs : List α), Adj R none xs ↔ xs.Pairwise R
  | [] => by simp [Adj]
  | x :: xs => by
    rw [Adj, adj_some (R := R) (fun h1 h2 => tr h1 h2) xs x]
    exact ⟨fun h => h.2, fun h => ⟨fun q e => (by cases e), h⟩⟩
/-! ### the program's -/
theorem scmp_tells (a b : ByteArray) : strings_Compare.f a b = some (sc a b) := rfl
theorem in_tells (a m : Int) : goods_in.f a m = some (decide (1 ≤ a ∧ a ≤ m)) := by
  unfold goods_in.f
  split <;> simp <;> omega
theorem may_tells (k : Nat) (hk : 20 ≤ k) (s : S22) : goods_may.f k s.f0 s.f1 s.f2 s.f3 s.f4 = some (MAY s) := by
  unfold goods_may.f MAY
  simp only [name_tells k hk, in_tells, Option.bind_some]
  cases nm s.f0 <;> cases nm s.f1 <;> cases (s.f0 == s.f1) <;> cases decide (1 ≤ s.f2 ∧ s.f2 ≤ 9) <;> cases decide (1 ≤ s.f3 ∧ s.f3 ≤ 100) <;> cases decide (1 ≤ s.f4 ∧ s.f4 ≤ 100) <;> rfl
theorem has_tells (k : Nat) (l : List ByteArray) (s : ByteArray) (hk : l.length < k) (hs : l.length < 1000000) : slices_Contains_string_string.f k l s = some (has l s) := by
  have key : ∀ (xs : List ByteArray) (i : Nat), ∃ j, slices_Index_string_string.r1 k s l xs i = some j ∧ decide (j ≥ 0) = has xs s := by
    intro xs
    induction xs with
    | nil => intro i; exact ⟨-1, rfl, rfl⟩
    | cons x xs ih =>
      intro i
      rw [slices_Index_string_string.r1, has, List.any_cons, beq_comm' s x]
      cases (x == s) with
      | true => exact ⟨i, rfl, by simp⟩
      | false => simpa [has] using ih (i + 1)
  unfold slices_Contains_string_string.f slices_Index_string_string.f
  have := slices_Index_string_string.r1_eq k s l (by omega) k 0 (by omega) (by omega)
  rw [show ((0 : Nat) : Int) = 0 from rfl, List.drop_zero] at this
  rw [this]
  obtain ⟨j, h1, h2⟩ := key l 0
  rw [h1, Option.bind_some, h2]
theorem twice_tells (k : Nat) (l : List S22) (s : S22) (hk : l.length < k) (hs : l.length < 1000000) : slices_ContainsFunc_api_Sub_api_Sub.f k l s.f0 s.f1 s.f2 s.f3 s.f4 = some (l.any (fun x => tw x s)) := by
  have key : ∀ (xs : List S22) (i : Nat), ∃ j, slices_IndexFunc_api_Sub_api_Sub.r1 k s.f0 s.f1 s.f2 s.f3 s.f4 l xs i = some j ∧ decide (j ≥ 0) = xs.any (fun x => tw x s) := by
    intro xs
    induction xs with
    | nil => intro i; exact ⟨-1, rfl, rfl⟩
    | cons x xs ih =>
      intro i
      have : goods_Right_1.f x.f0 x.f1 x.f2 x.f3 x.f4 s.f0 s.f1 s.f2 s.f3 s.f4 = some (tw x s) := by unfold goods_Right_1.f tw; cases (x.f0 == s.f0) <;> rfl
      rw [slices_IndexFunc_api_Sub_api_Sub.r1, List.any_cons, this, Option.bind_some]
      cases tw x s with
      | true => exact ⟨i, rfl, by simp⟩
      | false => simpa using ih (i + 1)
  unfold slices_ContainsFunc_api_Sub_api_Sub.f slices_IndexFunc_api_Sub_api_Sub.f
  have := slices_IndexFunc_api_Sub_api_Sub.r1_eq k s.f0 s.f1 s.f2 s.f3 s.f4 l (by omega) k 0 (by omega) (by omega)
  rw [show ((0 : Nat) : Int) = 0 from rfl, List.drop_zero] at this
  rw [this]
  obtain ⟨j, h1, h2⟩ := key l 0
  rw [h1, Option.bind_some, h2]
theorem names_tells (k : Nat) (hk2 : 20 ≤ k) (l : List ByteArray) (hk : l.length < k) (hs : l.length < 1000000) : slices_ContainsFunc_string_string.f k l = some (l.any (fun x => !nm x)) := by
  have key : ∀ (xs : List ByteArray) (i : Nat), ∃ j, slices_IndexFunc_string_string.r1 k l xs i = some j ∧ decide (j ≥ 0) = xs.any (fun x => !nm x) := by
    intro xs
    induction xs with
    | nil => intro i; exact ⟨-1, rfl, rfl⟩
    | cons x xs ih =>
      intro i
      have : goods_Right_2.f k x = some (!nm x) := by unfold goods_Right_2.f; rw [name_tells k hk2]; cases nm x <;> rfl
      rw [slices_IndexFunc_string_string.r1, List.any_cons, this, Option.bind_some]
      cases nm x with
      | false => exact ⟨i, rfl, by simp⟩
      | true => simpa using ih (i + 1)
  unfold slices_ContainsFunc_string_string.f slices_IndexFunc_string_string.f
  have := slices_IndexFunc_string_string.r1_eq k l (by omega) k 0 (by omega) (by omega)
  rw [show ((0 : Nat) : Int) = 0 from rfl, List.drop_zero] at this
  rw [this]
  obtain ⟨j, h1, h2⟩ := key l 0
  rw [h1, Option.bind_some, h2]
theorem cint_tells (a b : Int) : cmp_Compare_int.f a b = some (if a < b then -1 else if a > b then 1 else 0) := by
  unfold cmp_Compare_int.f cmp_isNaN_int.f
  simp only [Option.bind_some, bne_self_eq_false, Bool.false_eq_true, if_false]
  split
  · rfl
  · split <;> rfl
theorem or_tells (k : Nat) (a b : Int) : cmp_Or_int.f (k + 3) [a, b] = some (if a = 0 then b else a) := by
  unfold cmp_Or_int.f
  have := cmp_Or_int.r1_eq (k + 3) [a, b] (by simp) (k + 3) 0 (by simp) (by simp)
  rw [show ((0 : Nat) : Int) = 0 from rfl, List.drop_zero] at this
  rw [this, cmp_Or_int.r1, cmp_Or_int.r1, cmp_Or_int.r1]
  split
  · split
    · rename_i h; rw [h]
    · rfl
  · rfl
theorem cmp_tells (k : Nat) (hk : 3 ≤ k) (x y : S22) : ∃ c, goods_compare.f k x.f0 x.f1 x.f2 x.f3 x.f4 y.f0 y.f1 y.f2 y.f3 y.f4 = some c ∧ (c < 0 ↔ sb x y) := by
  obtain ⟨k, rfl⟩ : ∃ q, k = q + 3 := ⟨k - 3, by omega⟩
  unfold goods_compare.f
  simp only [scmp_tells, cint_tells, Option.bind_some, or_tells]
  refine ⟨_, rfl, ?_⟩
  unfold sb
  by_cases h : sc x.f0 y.f0 = 0
  · rw [if_pos h]
    have e := sc_eq.1 h
    rw [e]
    constructor
    · intro h2
      refine .inr ⟨rfl, ?_⟩
      split at h2
      · assumption
      · split at h2 <;> omega
    · rintro (h2 | ⟨_, h2⟩)
      · exact absurd h2 (sl_irr _)
      · rw [if_pos h2]; decide
  · rw [if_neg h]
    constructor
    · exact fun h2 => .inl h2
    · rintro (h2 | ⟨e, _⟩)
      · exact h2
      · exact absurd (sc_eq.2 e) h
theorem rising1 (k : Nat) (l : List ByteArray) (m : Nat) (hk : l.length < k) (hs : l.length < 1000000) : ∃ b, goods_rising_string.f k l m = some b ∧ (b = true ↔ l.Pairwise sl ∧ l.length ≤ m) := by
  have key : ∀ (xs : List ByteArray) (i n : Nat) (p : ByteArray), l.drop i = xs → 1 ≤ i → l[i - 1]? = some p → xs.length < n → ∃ b, goods_rising_string.l1 k m l n (i : Int) = some b ∧ (b = true ↔ Adj sl (some p) xs ∧ l.length ≤ m) := by
    intro xs
    induction xs with
    | nil =>
      intro i n p hd hi hp hn
      obtain ⟨n, rfl⟩ : ∃ q, n = q + 1 := ⟨n - 1, by omega⟩
      have := drop_nil_is hd
      rw [goods_rising_string.l1, if_neg (by omega)]
      exact ⟨_, rfl, by simp [Adj]⟩
    | cons x xs ih =>
      intro i n p hd hi hp hn
      obtain ⟨n, rfl⟩ : ∃ q, n = q + 1 := ⟨n - 1, by simp at hn; omega⟩
      obtain ⟨h1, h2, h3⟩ := drop_cons_is hd
      have hw : wrap64 ((i : Int) - 1) = ((i - 1 : Nat) : Int) := by unfold wrap64; omega
      have hw2 : wrap64 ((i : Int) + 1) = ((i + 1 : Nat) : Int) := by unfold wrap64; omega
      rw [goods_rising_string.l1, if_pos (by omega), hw, hw2, if_pos (by omega), Int.toNat_natCast, Int.toNat_natCast, hp, Option.bind_some, if_pos (by omega), h2, Option.bind_some, scmp_tells, Option.bind_some]
      by_cases hc : sc p x ≥ 0
      · rw [if_pos hc]
        refine ⟨false, rfl, by simp, fun h => ?_⟩
        have := h.1.1 p rfl
        unfold sl at this
        omega
      · rw [if_neg hc]
        obtain ⟨b, hb1, hb2⟩ := ih (i + 1) n x h3 (by omega) (by simpa using h2) (by simp at hn; omega)
        refine ⟨b, hb1, hb2.trans ?_⟩
        rw [Adj]
        refine ⟨fun h => ⟨⟨fun q e => by cases e; unfold sl; omega, h.1⟩, h.2⟩, fun h => ⟨h.1.2, h.2⟩⟩
  unfold goods_rising_string.f
  match hl : l with
  | [] =>
    obtain ⟨k, rfl⟩ : ∃ q, k = q + 1 := ⟨k - 1, by omega⟩
    rw [goods_rising_string.l1, if_neg (by simp)]
    exact ⟨_, rfl, by simp⟩
  | x :: xs =>
    obtain ⟨b, h1, h2⟩ := key xs 1 k x rfl (by omega) rfl (by simp at hk; omega)
    exact ⟨b, h1, h2.trans (by rw [adj_some (R := sl) (fun h1 h2 => sl_trans h1 h2)])⟩
theorem rising2 (k : Nat) (hk3 : 3 ≤ k) (l : List S22) (m : Nat) (hk : l.length < k) (hs : l.length < 1000000) : ∃ b, goods_rising_Sub.f k l m = some b ∧ (b = true ↔ l.Pairwise sb ∧ l.length ≤ m) := by
  have key : ∀ (xs : List S22) (i n : Nat) (p : S22), l.drop i = xs → 1 ≤ i → l[i - 1]? = some p → xs.length < n → ∃ b, goods_rising_Sub.l1 k m l n (i : Int) = some b ∧ (b = true ↔ Adj sb (some p) xs ∧ l.length ≤ m) := by
    intro xs
    induction xs with
    | nil =>
      intro i n p hd hi hp hn
      obtain ⟨n, rfl⟩ : ∃ q, n = q + 1 := ⟨n - 1, by omega⟩
      have := drop_nil_is hd
      rw [goods_rising_Sub.l1, if_neg (by omega)]
      exact ⟨_, rfl, by simp [Adj]⟩
    | cons x xs ih =>
      intro i n p hd hi hp hn
      obtain ⟨n, rfl⟩ : ∃ q, n = q + 1 := ⟨n - 1, by simp at hn; omega⟩
      obtain ⟨h1, h2, h3⟩ := drop_cons_is hd
      have hw : wrap64 ((i : Int) - 1) = ((i - 1 : Nat) : Int) := by unfold wrap64; omega
      have hw2 : wrap64 ((i : Int) + 1) = ((i + 1 : Nat) : Int) := by unfold wrap64; omega
      obtain ⟨c, hc1, hc2⟩ := cmp_tells k hk3 p x
      rw [goods_rising_Sub.l1, if_pos (by omega), hw, hw2, if_pos (by omega), Int.toNat_natCast, Int.toNat_natCast, hp, Option.bind_some, if_pos (by omega), h2, Option.bind_some, hc1, Option.bind_some]
      by_cases hc : c ≥ 0
      · rw [if_pos hc]
        refine ⟨false, rfl, by simp, fun h => ?_⟩
        have := hc2.2 (h.1.1 p rfl)
        omega
      · rw [if_neg hc]
        obtain ⟨b, hb1, hb2⟩ := ih (i + 1) n x h3 (by omega) (by simpa using h2) (by simp at hn; omega)
        refine ⟨b, hb1, hb2.trans ?_⟩
        rw [Adj]
        refine ⟨fun h => ⟨⟨fun q e => by cases e; exact hc2.1 (by omega), h.1⟩, h.2⟩, fun h => ⟨h.1.2, h.2⟩⟩
  unfold goods_rising_Sub.f
  match hl : l with
  | [] =>
    obtain ⟨k, rfl⟩ : ∃ q, k = q + 1 := ⟨k - 1, by omega⟩
    rw [goods_rising_Sub.l1, if_neg (by simp)]
    exact ⟨_, rfl, by simp⟩
  | x :: xs =>
    obtain ⟨b, h1, h2⟩ := key xs 1 k x rfl (by omega) rfl (by simp at hk; omega)
    exact ⟨b, h1, h2.trans (by rw [adj_some (R := sb) (fun h1 h2 => sb_trans h1 h2)])⟩
/-- No two are alike, from here on. -/
theorem d_split {su : List S22} : (∀ (i : Nat) (x : S22), su[i]? = some x → (su.take i).any (fun y => tw y x) = false) ↔ su.Pairwise (fun a b => tw a b = false) := by
  constructor
  · intro h
    refine pw_of_get fun i j x y hij hx hy => ?_
    have h1 := h j y hy
    rw [List.any_eq_false] at h1
    have := h1 x (List.mem_of_getElem? (i := i) (by rw [List.getElem?_take, if_pos hij]; exact hx))
    simpa using this
  · intro h i x hx
    rw [List.any_eq_false]
    intro y hy
    obtain ⟨j, hj⟩ := List.getElem?_of_mem hy
    rw [List.getElem?_take] at hj
    split at hj
    · rename_i hji
      have := pw_get h hji hj hx
      simp [this]
    · cases hj
theorem right_tells (k : Nat) (hk : 100 ≤ k) (sk : List ByteArray) (su : List S22) (h1 : sk.length ≤ 90) (h2 : su.length ≤ 90) : ∃ b, goods_Right.f k sk su = some b ∧ (b = true ↔ Rt sk su) := by
  obtain ⟨b1, r1, r2⟩ := rising1 k sk 8 (by omega) (by omega)
  obtain ⟨b2, r3, r4⟩ := rising2 k (by omega) su 16 (by omega) (by omega)
  have key : ∀ (xs : List S22) (i : Nat), su.drop i = xs → ∃ b, goods_Right.r1 k sk su xs i = some b ∧ (b = true ↔ (∀ s ∈ xs, MAY s = true ∧ has sk s.f0 = true ∧ has sk s.f1 = true) ∧ (∀ (j : Nat) (x : S22), i ≤ j → su[j]? = some x → (su.take j).any (fun y => tw y x) = false) ∧ (∀ s ∈ sk, nm s = true) ∧ (sk.Pairwise sl ∧ sk.length ≤ 8) ∧ su.Pairwise sb ∧ su.length ≤ 16) := by
    intro xs
    induction xs with
    | nil =>
      intro i hd
      have hle := drop_nil_is hd
      rw [goods_Right.r1, names_tells k (by omega) sk (by omega) (by omega), Option.bind_some]
      by_cases hn : sk.any (fun x => !nm x) = true
      · rw [if_pos hn]
        refine ⟨false, rfl, by simp, fun h => ?_⟩
        rw [List.any_eq_true] at hn
        obtain ⟨x, hx, hx2⟩ := hn
        rw [h.2.2.1 x hx] at hx2
        cases hx2
      · rw [if_neg hn]
        have hn2 : ∀ s ∈ sk, nm s = true := by
          intro s hs
          rw [List.any_eq_true] at hn
          cases hq : nm s with
          | true => rfl
          | false => exact absurd ⟨s, hs, by simp [hq]⟩ hn
        rw [show (8 : Int) = ((8 : Nat) : Int) from rfl, r1, Option.bind_some]
        have hj : ∀ (j : Nat) (x : S22), i ≤ j → su[j]? = some x → (su.take j).any (fun y => tw y x) = false := fun j x hj hx => by
          have := (List.getElem?_eq_some_iff.1 hx).1
          omega
        cases b1 with
        | false =>
          refine ⟨false, rfl, by simp, fun h => ?_⟩
          exact absurd (r2.2 h.2.2.2.1) (by simp)
        | true =>
          rw [if_pos rfl, show (16 : Int) = ((16 : Nat) : Int) from rfl, r3, Option.bind_some]
          refine ⟨b2, rfl, r4.trans ⟨fun h => ⟨by simp, hj, hn2, r2.1 rfl, h⟩, fun h => h.2.2.2.2⟩⟩
    | cons x xs ih =>
      intro i hd
      obtain ⟨g1, g2, g3⟩ := drop_cons_is hd
      rw [goods_Right.r1, if_pos (by omega), Int.toNat_natCast, take_drop0, twice_tells k _ x (by rw [List.length_take]; omega) (by rw [List.length_take]; omega), Option.bind_some]
      cases ht : (su.take i).any (fun y => tw y x) with
      | true =>
        refine ⟨false, rfl, by simp, fun h => ?_⟩
        rw [h.2.1 i x (Nat.le_refl _) g2] at ht
        cases ht
      | false =>
        rw [if_neg (by simp), may_tells k (by omega), Option.bind_some]
        cases hm : MAY x with
        | false => exact ⟨false, rfl, by simp, fun h => by rw [(h.1 x (by simp)).1] at hm; cases hm⟩
        | true =>
          rw [if_pos rfl, has_tells k sk x.f0 (by omega) (by omega), Option.bind_some]
          cases ha : has sk x.f0 with
          | false => exact ⟨false, rfl, by simp, fun h => by rw [(h.1 x (by simp)).2.1] at ha; cases ha⟩
          | true =>
            rw [if_pos rfl, has_tells k sk x.f1 (by omega) (by omega), Option.bind_some]
            cases hb : has sk x.f1 with
            | false => exact ⟨false, rfl, by simp, fun h => by rw [(h.1 x (by simp)).2.2] at hb; cases hb⟩
            | true =>
              rw [if_pos rfl]
              obtain ⟨b, e1, e2⟩ := ih (i + 1) g3
              refine ⟨b, e1, e2.trans ⟨fun h => ⟨?_, ?_, h.2.2⟩, fun h => ⟨fun s hs => h.1 s (by simp [hs]), fun j y hj hy => h.2.1 j y (by omega) hy, h.2.2⟩⟩⟩
              · intro s hs
                rcases List.mem_cons.1 hs with rfl | hs
                · exact ⟨hm, ha, hb⟩
                · exact h.1 s hs
              · intro j y hj hy
                rcases Nat.lt_or_eq_of_le hj with hj | rfl
                · exact h.2.1 j y hj hy
                · rw [g2] at hy
                  cases hy
                  exact ht
  unfold goods_Right.f
  have := goods_Right.r1_eq k sk su (by omega) k 0 (by omega) (by omega)
  rw [show ((0 : Nat) : Int) = 0 from rfl, List.drop_zero] at this
  rw [this]
  obtain ⟨b, e1, e2⟩ := key su 0 rfl
  refine ⟨b, e1, e2.trans ⟨fun h => ⟨h.2.2.1, h.2.2.2.1.1, h.2.2.2.1.2, h.1, h.2.2.2.2.1, d_split.1 fun i x hx => h.2.1 i x (Nat.zero_le _) hx, h.2.2.2.2.2⟩, fun h => ⟨h.n2, fun j x _ hx => d_split.2 h.d2 j x hx, h.n1, ⟨h.u1, h.l1⟩, h.u2, h.l2⟩⟩⟩
/-- Every name and rule is short. -/
def Sh (sk : List ByteArray) : Prop := ∀ s ∈ sk, s.size ≤ 18
def Shu (su : List S22) : Prop := ∀ x ∈ su, x.f0.size ≤ 18 ∧ x.f1.size ≤ 18
/-! ### what is put in its place -/
def ins1 (x : ByteArray) (l : List ByteArray) : List ByteArray := l.takeWhile (fun y => decide (sl y x)) ++ [x] ++ l.dropWhile (fun y => decide (sl y x))
def ins2 (x : S22) (l : List S22) : List S22 := l.takeWhile (fun y => decide (sb y x)) ++ [x] ++ l.dropWhile (fun y => decide (sb y x))
theorem downs1 {l : List ByteArray} (h : l.Pairwise sl) (x : ByteArray) : Downs (fun y => decide (sl y x)) l := fun i j a b hij ha hb hp => by
  have := pw_get h hij ha hb
  simp only [decide_eq_true_eq] at hp ⊢
  exact sl_trans this hp
theorem downs2 {l : List S22} (h : l.Pairwise sb) (x : S22) : Downs (fun y => decide (sb y x)) l := fun i j a b hij ha hb hp => by
  have := pw_get h hij ha hb
  simp only [decide_eq_true_eq] at hp ⊢
  exact sb_trans this hp
theorem bsearch2 (k : Nat) (hk : 3 ≤ k) (x : S22) (l : List S22) (h : l.Pairwise sb) (hl : l.length ≤ 1000) (hk2 : l.length < k) : ∃ b, slices_BinarySearchFunc_api_Sub_api_Sub_api_Sub.f k l x.f0 x.f1 x.f2 x.f3 x.f4 = some ((((l.takeWhile (fun y => decide (sb y x))).length : Nat) : Int), b) := by
  have hd := downs2 h x
  have hle := tw_len_le (fun y => decide (sb y x)) l
  generalize hn : (l.takeWhile (fun y => decide (sb y x))).length = n at hle
  have key : ∀ (m i j : Nat), i ≤ n → n ≤ j → j ≤ l.length → j - i < m → ∃ b, slices_BinarySearchFunc_api_Sub_api_Sub_api_Sub.l1 k x.f0 x.f1 x.f2 x.f3 x.f4 l m (i : Int) (j : Int) = some ((n : Int), b) := by
    intro m
    induction m with
    | zero => intro i j _ _ _ h; omega
    | succ m ih =>
      intro i j h1 h2 h3 h4
      rw [slices_BinarySearchFunc_api_Sub_api_Sub_api_Sub.l1]
      by_cases hij : i < j
      · have hm : (i + j) / 2 < l.length := by omega
        obtain ⟨c, hc1, hc2⟩ := cmp_tells k hk l[(i + j) / 2] x
        rw [if_pos (by omega), mid_is (by omega) (by omega), if_pos (by omega), Int.toNat_natCast, List.getElem?_eq_getElem hm, Option.bind_some, hc1, Option.bind_some]
        by_cases hc : c < 0
        · rw [if_pos hc, show wrap64 ((((i + j) / 2 : Nat) : Int) + 1) = (((i + j) / 2 + 1 : Nat) : Int) by unfold wrap64; omega]
          refine ih _ _ ?_ h2 h3 (by omega)
          apply Nat.lt_of_not_le
          intro hge
          have := tw_ge hd (List.getElem?_eq_getElem hm) (by omega)
          rw [decide_eq_false_iff_not] at this
          exact this (hc2.1 hc)
        · rw [if_neg hc]
          refine ih _ _ h1 ?_ (by omega) (by omega)
          apply Nat.le_of_not_lt
          intro hlt
          have := tw_lt (fun y => decide (sb y x)) l _ _ (List.getElem?_eq_getElem hm) (by omega)
          exact hc (hc2.2 (of_decide_eq_true this))
      · obtain rfl : i = n := by omega
        rw [if_neg (by omega)]
        by_cases hi : i < l.length
        · obtain ⟨c, hc1, hc2⟩ := cmp_tells k hk l[i] x
          rw [if_pos (by omega), if_pos (by omega), Int.toNat_natCast, List.getElem?_eq_getElem hi, Option.bind_some, hc1, Option.bind_some]
          exact ⟨_, rfl⟩
        · rw [if_neg (by omega)]
          exact ⟨_, rfl⟩
  unfold slices_BinarySearchFunc_api_Sub_api_Sub_api_Sub.f
  exact key k 0 l.length (Nat.zero_le _) hle (Nat.le_refl _) (by omega)
theorem put2 (k : Nat) (hk : 3 ≤ k) (x : S22) (l : List S22) (h : l.Pairwise sb) (hl : l.length ≤ 1000) (hk2 : l.length < k) : goods_put_Sub.f k l x.f0 x.f1 x.f2 x.f3 x.f4 = some (ins2 x l) := by
  obtain ⟨b, hb⟩ := bsearch2 k hk x l h hl hk2
  have hle := tw_len_le (fun y => decide (sb y x)) l
  unfold goods_put_Sub.f slices_Clone_api_Sub_api_Sub.f slices_Insert_api_Sub_api_Sub.f
  rw [hb]
  simp only [Option.bind_some]
  rw [if_pos (by omega)]
  simp only [Option.bind_some]
  rw [if_pos ⟨by omega, by omega, by simp; omega⟩, Int.toNat_natCast, take_tw, drop_tw]
  rfl
theorem like_tells (k : Nat) (l : List S22) (s : S22) (hk : l.length < k) (hs : l.length < 1000000) : slices_ContainsFunc_api_Sub_api_Sub_s25.f k l s.f0 s.f1 s.f2 s.f3 s.f4 = some (l.any (fun x => lk x s)) := by
  have key : ∀ (xs : List S22) (i : Nat), ∃ j, slices_IndexFunc_api_Sub_api_Sub_s25.r1 k s.f0 s.f1 s.f2 s.f3 s.f4 l xs i = some j ∧ decide (j ≥ 0) = xs.any (fun x => lk x s) := by
    intro xs
    induction xs with
    | nil => intro i; exact ⟨-1, rfl, rfl⟩
    | cons x xs ih =>
      intro i
      have : goods_Rule_1.f x.f0 x.f1 x.f2 x.f3 x.f4 s.f0 s.f1 s.f2 s.f3 s.f4 = some (lk x s) := by
        unfold goods_Rule_1.f lk
        cases (x.f0 == s.f0) with
        | false => rfl
        | true =>
          by_cases h : x.f2 = s.f2
          · rw [if_pos rfl, if_pos h]; simp [h]
          · rw [if_pos rfl, if_neg h]; simp [h]
      rw [slices_IndexFunc_api_Sub_api_Sub_s25.r1, List.any_cons, this, Option.bind_some]
      cases lk x s with
      | true => exact ⟨i, rfl, by simp⟩
      | false => simpa using ih (i + 1)
  unfold slices_ContainsFunc_api_Sub_api_Sub_s25.f slices_IndexFunc_api_Sub_api_Sub_s25.f
  have := slices_IndexFunc_api_Sub_api_Sub_s25.r1_eq k s.f0 s.f1 s.f2 s.f3 s.f4 l (by omega) k 0 (by omega) (by omega)
  rw [show ((0 : Nat) : Int) = 0 from rfl, List.drop_zero] at this
  rw [this]
  obtain ⟨j, h1, h2⟩ := key l 0
  rw [h1, Option.bind_some, h2]
theorem rule_tells (k : Nat) (hk : 100 ≤ k) (sk : List ByteArray) (su : List S22) (h : Rt sk su) (s : S22) : goods_Rule.f k sk su s.f0 s.f1 s.f2 s.f3 s.f4 = some (if MAY s = true ∧ has sk s.f0 = true ∧ has sk s.f1 = true then (if su.any (fun x => lk x s) = true then ([], [], 9) else if su.length = 16 then ([], [], 7) else (sk, ins2 s su, 0)) else ([], [], if MAY s = true then 8 else 1)) := by
  have := h.l1
  have := h.l2
  obtain ⟨b, h1, h2⟩ := right_tells k hk sk su (by omega) (by omega)
  obtain rfl := h2.2 h
  unfold goods_Rule.f
  rw [h1, Option.bind_some, if_pos rfl, may_tells k (by omega), Option.bind_some]
  cases hm : MAY s with
  | false => rfl
  | true =>
    rw [if_pos rfl, has_tells k sk s.f0 (by omega) (by omega), Option.bind_some]
    cases ha : has sk s.f0 with
    | false => rfl
    | true =>
      rw [if_pos rfl, has_tells k sk s.f1 (by omega) (by omega), Option.bind_some]
      cases hb : has sk s.f1 with
      | false => rfl
      | true =>
        rw [if_pos rfl, like_tells k su s (by omega) (by omega), Option.bind_some, if_pos (show true = true ∧ true = true ∧ true = true from ⟨rfl, rfl, rfl⟩)]
        cases su.any (fun x => lk x s) with
        | true => rfl
        | false =>
          rw [if_neg (show ¬ (false = true) by simp), if_neg (show ¬ (false = true) by simp)]
          by_cases h16 : su.length = 16
          · rw [if_pos (by omega), if_pos h16]
          · rw [if_neg (by omega), if_neg h16, put2 k (by omega) s su h.u2 (by omega) (by omega)]
            rfl
theorem rule_bad (k : Nat) (hk : 100 ≤ k) (sk : List ByteArray) (su : List S22) (h1 : sk.length ≤ 90) (h2 : su.length ≤ 90) (h : ¬ Rt sk su) (s : S22) : goods_Rule.f k sk su s.f0 s.f1 s.f2 s.f3 s.f4 = some ([], [], 1) := by
  obtain ⟨b, h3, h4⟩ := right_tells k hk sk su h1 h2
  unfold goods_Rule.f
  rw [h3, Option.bind_some, if_neg (fun e => h (h4.1 e))]
/-! ### the rules of a name -/
theorem keep_is {α : Type} (q : α → Bool) : ∀ l : List α, keepM (fun x => some (q x)) l = some (l.filter (fun x => !q x))
  | [] => rfl
  | x :: xs => by
    rw [keepM, keep_is q xs]
    cases h : q x <;> simp [h]
theorem for_tells (k : Nat) (hk : 100 ≤ k) (sk : List ByteArray) (su : List S22) (h : Rt sk su) (s : ByteArray) : goods_For.f k sk su s = some (if has sk s = true then (su.filter (fun x => x.f0 == s), 0) else ([], 8)) := by
  have := h.l1
  have := h.l2
  obtain ⟨b, h1, h2⟩ := right_tells k hk sk su (by omega) (by omega)
  obtain rfl := h2.2 h
  unfold goods_For.f
  rw [h1, Option.bind_some, if_pos rfl, has_tells k sk s (by omega) (by omega), Option.bind_some]
  cases hm : has sk s with
  | false => rfl
  | true =>
    rw [if_pos rfl, if_pos rfl, slices_Clone_api_Sub_api_Sub.f, if_pos (by omega), Option.bind_some]
    have hp : (fun x : S22 => goods_For_1.f x.f0 x.f1 x.f2 x.f3 x.f4 s) = fun x => some (x.f0 != s) := rfl
    have key : ∀ (xs : List S22) (i : Nat), ∃ j, slices_IndexFunc_api_Sub_api_Sub_s35.r1 k s su xs i = some j ∧ ((j = -1 ∧ xs.filter (fun x => x.f0 == s) = xs) ∨ ∃ d : Nat, j = ((i + d : Nat) : Int) ∧ d < xs.length ∧ xs.filter (fun x => x.f0 == s) = xs.take d ++ (xs.drop (d + 1)).filter (fun x => x.f0 == s)) := by
      intro xs
      induction xs with
      | nil => intro i; exact ⟨-1, rfl, .inl ⟨rfl, rfl⟩⟩
      | cons x xs ih =>
        intro i
        rw [slices_IndexFunc_api_Sub_api_Sub_s35.r1, goods_For_1.f, Option.bind_some]
        cases hx : x.f0 == s with
        | false =>
          have : (x.f0 != s) = true := by rw [bne, hx]; rfl
          rw [if_pos this]
          exact ⟨i, rfl, .inr ⟨0, rfl, by simp, by simp [hx]⟩⟩
        | true =>
          have : ¬ (x.f0 != s) = true := by rw [bne, hx]; decide
          rw [if_neg this]
          obtain ⟨j, e1, e2⟩ := ih (i + 1)
          refine ⟨j, e1, ?_⟩
          rcases e2 with ⟨e2, e3⟩ | ⟨d, e2, e3, e4⟩
          · exact .inl ⟨e2, by simp [hx, e3]⟩
          · exact .inr ⟨d + 1, by rw [e2]; congr 1; omega, by simp; omega, by rw [List.filter_cons_of_pos (by simpa using hx), e4]; rfl⟩
    obtain ⟨j, e1, e2⟩ := key su 0
    have hix : slices_IndexFunc_api_Sub_api_Sub_s35.f k su s = some j := by
      unfold slices_IndexFunc_api_Sub_api_Sub_s35.f
      have := slices_IndexFunc_api_Sub_api_Sub_s35.r1_eq k s su (by omega) k 0 (by omega) (by omega)
      rw [show ((0 : Nat) : Int) = 0 from rfl, List.drop_zero] at this
      rw [this, e1]
    rw [hix, hp, slices_DeleteFunc_api_Sub_api_Sub.f, Option.bind_some]
    rcases e2 with ⟨rfl, e3⟩ | ⟨d, rfl, e3, e4⟩
    · rw [if_pos rfl, Option.bind_some, e3]
    · rw [Nat.zero_add, if_neg (by omega), if_pos ⟨by omega, by omega⟩, Int.toNat_natCast, keep_is, Option.bind_some, Option.bind_some, e4]
      congr 3
      apply List.filter_congr
      intro x _
      simp [bne]
theorem for_bad (k : Nat) (hk : 100 ≤ k) (sk : List ByteArray) (su : List S22) (h1 : sk.length ≤ 90) (h2 : su.length ≤ 90) (h : ¬ Rt sk su) (s : ByteArray) : goods_For.f k sk su s = some ([], 1) := by
  obtain ⟨b, h3, h4⟩ := right_tells k hk sk su h1 h2
  unfold goods_For.f
  rw [h3, Option.bind_some, if_neg (fun e => h (h4.1 e))]
/-! ### the same goods; few of them -/
theorem like_self (k : Nat) (a : List ByteArray) (b : List S22) (h1 : a.length < k) (h2 : a.length < 1000000) (h3 : b.length < k) (h4 : b.length < 1000000) : tarryref07_Like.f k a b a b = some true := by
  have k5 : ∀ (xs : List S22) (i : Nat), b.drop i = xs → tarryref07_Like.r5 k b b xs i = some true := by
    intro xs
    induction xs with
    | nil => intro i _; rfl
    | cons x xs ih =>
      intro i hd
      obtain ⟨g1, g2, g3⟩ := drop_cons_is hd
      rw [tarryref07_Like.r5, Int.toNat_natCast, g2, Option.bind_some, if_pos (by simp [beq_is]), ih (i + 1) g3]
  have k1 : ∀ (xs : List ByteArray) (i : Nat), a.drop i = xs → tarryref07_Like.r1 k a b a b xs i = some true := by
    intro xs
    induction xs with
    | nil => intro i _; exact k5 b 0 rfl
    | cons x xs ih =>
      intro i hd
      obtain ⟨g1, g2, g3⟩ := drop_cons_is hd
      rw [tarryref07_Like.r1, Int.toNat_natCast, g2, Option.bind_some, if_pos (by simp [beq_is]), ih (i + 1) g3]
  unfold tarryref07_Like.f
  have := tarryref07_Like.r1_eq k a b a b ⟨h3, by omega⟩ (by omega) k 0 (by omega) (by omega)
  rw [show ((0 : Nat) : Int) = 0 from rfl, List.drop_zero] at this
  rw [if_pos rfl, if_pos rfl, this, k1 a 0 rfl]
theorem cut_size (s : ByteArray) : 0 ≤ mn (s.size : Int) 18 ∧ mn (s.size : Int) 18 ≤ s.size ∧ (s.extract 0 (mn (s.size : Int) 18).toNat).size ≤ 18 := by
  rw [ByteArray.size_extract]
  unfold mn
  split <;> refine ⟨by omega, by omega, by omega⟩
theorem cut_tells (s : S22) : ∃ q : S22, tarrylaw07_cut.f s.f0 s.f1 s.f2 s.f3 s.f4 = some (q.f0, q.f1, q.f2, q.f3, q.f4) ∧ q.f0.size ≤ 18 ∧ q.f1.size ≤ 18 := by
  obtain ⟨c1, c2, c3⟩ := cut_size s.f0
  obtain ⟨c4, c5, c6⟩ := cut_size s.f1
  refine ⟨⟨s.f0.extract 0 (mn (s.f0.size : Int) 18).toNat, s.f1.extract 0 (mn (s.f1.size : Int) 18).toNat, s.f2, s.f3, s.f4⟩, ?_, c3, c6⟩
  unfold tarrylaw07_cut.f
  rw [if_pos c1, if_pos c2, if_pos c4, if_pos c5]
theorem few_tells (k : Nat) (hk : 100 ≤ k) (l0 : List ByteArray) (l1 : List S22) : ∃ sk su, tarrylaw07_few.f k l0 l1 = some (sk, su) ∧ sk.length ≤ 10 ∧ su.length ≤ 18 ∧ Sh sk ∧ Shu su := by
  have k5 : ∀ (sk : List ByteArray) (xs acc : List S22), xs.length + acc.length ≤ 18 → Shu acc → ∃ su, tarrylaw07_few.r5 k l1 sk xs acc = some (sk, su) ∧ su.length ≤ 18 ∧ Shu su := by
    intro sk xs
    induction xs with
    | nil => intro acc h1 h2; exact ⟨acc, rfl, by simpa using h1, h2⟩
    | cons x xs ih =>
      intro acc h1 h2
      simp only [List.length_cons] at h1
      obtain ⟨q, e1, e2, e3⟩ := cut_tells x
      rw [tarrylaw07_few.r5, e1, Option.bind_some]
      simp only
      rw [if_pos (by simp; omega)]
      refine ih _ (by simp; omega) fun y hy => ?_
      rcases List.mem_append.1 hy with hy | hy
      · exact h2 y hy
      · obtain rfl := List.mem_singleton.1 hy
        exact ⟨e2, e3⟩
  obtain ⟨a1, a2, a3⟩ : 0 ≤ mn (l0.length : Int) 10 ∧ mn (l0.length : Int) 10 ≤ l0.length ∧ (mn (l0.length : Int) 10).toNat ≤ 10 := by unfold mn; split <;> refine ⟨by omega, by omega, by omega⟩
  obtain ⟨b1, b2, b3⟩ : 0 ≤ mn (l1.length : Int) 18 ∧ mn (l1.length : Int) 18 ≤ l1.length ∧ (mn (l1.length : Int) 18).toNat ≤ 18 := by unfold mn; split <;> refine ⟨by omega, by omega, by omega⟩
  have k1 : ∀ (xs acc : List ByteArray), xs.length + acc.length ≤ 10 → Sh acc → ∃ sk su, tarrylaw07_few.r1 k l0 l1 xs acc = some (sk, su) ∧ sk.length ≤ 10 ∧ su.length ≤ 18 ∧ Sh sk ∧ Shu su := by
    intro xs
    induction xs with
    | nil =>
      intro acc h1 h2
      rw [tarrylaw07_few.r1, if_pos b1, if_pos b2]
      obtain ⟨su, e1, e2, e3⟩ := k5 acc ((l1.take (mn (l1.length : Int) 18).toNat).drop 0) [] (by rw [List.drop_zero, List.length_take]; simp; omega) (fun y hy => by cases hy)
      exact ⟨acc, su, e1, by simpa using h1, e2, h2, e3⟩
    | cons x xs ih =>
      intro acc h1 h2
      simp only [List.length_cons] at h1
      obtain ⟨c1, c2, c3⟩ := cut_size x
      rw [tarrylaw07_few.r1, if_pos c1, if_pos c2, if_pos (by simp; omega)]
      refine ih _ (by simp; omega) fun y hy => ?_
      rcases List.mem_append.1 hy with hy | hy
      · exact h2 y hy
      · obtain rfl := List.mem_singleton.1 hy
        exact c3
  unfold tarrylaw07_few.f
  have hl : ((l0.take (mn (l0.length : Int) 10).toNat).drop 0).length ≤ 10 := by rw [List.drop_zero, List.length_take]; omega
  have hl5 : ((l1.take (mn (l1.length : Int) 18).toNat).drop 0).length ≤ 18 := by rw [List.drop_zero, List.length_take]; omega
  have := tarrylaw07_few.r1_eq k l0 l1 ⟨by omega, by omega⟩ (by omega) k 0 [] (by omega) (by omega)
  rw [show ((0 : Nat) : Int) = 0 from rfl, List.drop_zero (l := (l0.take (mn (l0.length : Int) 10).toNat).drop 0)] at this
  rw [if_pos a1, if_pos a2, this]
  exact k1 _ [] (by simpa using hl) (fun y hy => by cases hy)
theorem ins2_len (s : S22) (l : List S22) : (ins2 s l).length = l.length + 1 := by
  have h5 := tw_len_le (fun y => decide (sb y s)) l
  unfold ins2
  rw [← drop_tw]
  simp only [List.length_append, List.length_drop, List.length_cons, List.length_nil]
  omega
theorem mem_ins2 {x y : S22} {l : List S22} : y ∈ ins2 x l ↔ y = x ∨ y ∈ l := by
  unfold ins2
  rw [List.mem_append, List.mem_append, List.mem_singleton, ← mem_tw_dw (fun y => decide (sb y x)) l y]
  grind
theorem lk_tw {a b : S22} (h : lk a b = false) : tw a b = false ∧ tw b a = false ∧ lk b a = false ∧ ¬ (a.f0 = b.f0 ∧ a.f2 = b.f2) := by
  unfold lk tw at *
  simp only [beq_is] at *
  by_cases h0 : a.f0 = b.f0
  · by_cases h1 : a.f1 = b.f1
    · simp [h0, h1] at h
    · by_cases h2 : a.f2 = b.f2
      · simp [h0, h2] at h
      · have h1' : ¬ b.f1 = a.f1 := fun e => h1 e.symm
        have h2' : ¬ b.f2 = a.f2 := fun e => h2 e.symm
        simp [h0, h1, h2, h1', h2']
  · simp [h0]
    have h0' : ¬ b.f0 = a.f0 := fun e => h0 e.symm
    exact ⟨fun e => absurd e h0', fun e => absurd e h0'⟩
theorem Rt_ins2 {sk : List ByteArray} {su : List S22} {x : S22} (h : Rt sk su) (hm : MAY x = true) (h0 : has sk x.f0 = true) (h1 : has sk x.f1 = true) (hl : su.length ≠ 16) (hn : su.any (fun y => lk y x) = false) : Rt sk (ins2 x su) := by
  rw [List.any_eq_false] at hn
  have hn2 : ∀ y ∈ su, lk y x = false := fun y hy => by simpa using hn y hy
  have hl2 := h.l2
  have hP : su.Pairwise (fun y z => sb y z ∧ tw y z = false) := h.u2.and h.d2
  have g1 : ∀ y ∈ su.takeWhile (fun y => decide (sb y x)), (sb y x ∧ tw y x = false) := fun y hy => ⟨of_decide_eq_true (mem_tw (p := fun y => decide (sb y x)) hy), (lk_tw (hn2 y ((mem_tw_dw (fun y => decide (sb y x)) su y).1 (.inl hy)))).1⟩
  have g2 : ∀ y ∈ su.dropWhile (fun y => decide (sb y x)), (sb x y ∧ tw x y = false) := fun y hy => by
    have hy2 := (mem_tw_dw (fun y => decide (sb y x)) su y).1 (.inr hy)
    have h3 := mem_dw (downs2 h.u2 x) hy
    rw [decide_eq_false_iff_not] at h3
    have := lk_tw (hn2 y hy2)
    exact ⟨sb_tri h3 this.2.2.2, this.2.1⟩
  have hsplit : (su.takeWhile (fun y => decide (sb y x)) ++ su.dropWhile (fun y => decide (sb y x))).Pairwise (fun y z => sb y z ∧ tw y z = false) := by rw [List.takeWhile_append_dropWhile]; exact hP
  rw [List.pairwise_append] at hsplit
  have hall : (ins2 x su).Pairwise (fun y z => sb y z ∧ tw y z = false) := by
    unfold ins2
    rw [List.append_assoc, List.pairwise_append]
    refine ⟨hsplit.1, ?_, fun a ha b hb => ?_⟩
    · rw [List.singleton_append, List.pairwise_cons]
      exact ⟨g2, hsplit.2.1⟩
    · rcases List.mem_cons.1 hb with rfl | hb
      · exact g1 a ha
      · exact hsplit.2.2 a ha b hb
  refine ⟨h.n1, h.u1, h.l1, fun y hy => ?_, hall.imp fun q => q.1, hall.imp fun q => q.2, by rw [ins2_len]; omega⟩
  rcases mem_ins2.1 hy with rfl | hy
  · exact ⟨hm, h0, h1⟩
  · exact h.n2 y hy
theorem ins_turn {sk : List ByteArray} {l l' : List S22} (h : Rt sk l) (h' : Rt sk l') (hm : ∀ x, x ∈ l ↔ x ∈ l') : l = l' := eq_of_rise (R := sb) (fun a b h1 h2 => sb_asymm h1 h2) l l' h.u2 h'.u2 hm
/-- What a rule that is put in needs. -/
theorem rule_ok {k : Nat} (hk : 100 ≤ k) {sk : List ByteArray} {su : List S22} (h1 : sk.length ≤ 90) (h2 : su.length ≤ 90) {s : S22} {a : List ByteArray} {b : List S22} (h : goods_Rule.f k sk su s.f0 s.f1 s.f2 s.f3 s.f4 = some (a, b, 0)) :
    Rt sk su ∧ MAY s = true ∧ has sk s.f0 = true ∧ has sk s.f1 = true ∧ su.any (fun x => lk x s) = false ∧ su.length ≠ 16 ∧ a = sk ∧ b = ins2 s su := by
  by_cases hR : Rt sk su
  · rw [rule_tells k hk sk su hR] at h
    by_cases hm : MAY s = true ∧ has sk s.f0 = true ∧ has sk s.f1 = true
    · rw [if_pos hm] at h
      cases hq : su.any (fun x => lk x s) with
      | true => rw [hq, if_pos (show true = true from rfl)] at h; cases h
      | false =>
        rw [hq, if_neg (show ¬ (false = true) by simp)] at h
        by_cases h16 : su.length = 16
        · rw [if_pos h16] at h; cases h
        · rw [if_neg h16] at h
          cases h
          exact ⟨hR, hm.1, hm.2.1, hm.2.2, rfl, h16, rfl, rfl⟩
    · rw [if_neg hm] at h
      split at h <;> cases h
  · rw [rule_bad k hk sk su h1 h2 hR] at h
    cases h
theorem rule_does {k : Nat} (hk : 100 ≤ k) {sk : List ByteArray} {su : List S22} {s : S22} (hR : Rt sk su) (h1 : MAY s = true) (h2 : has sk s.f0 = true) (h3 : has sk s.f1 = true) (h4 : su.any (fun x => lk x s) = false) (h5 : su.length ≠ 16) : goods_Rule.f k sk su s.f0 s.f1 s.f2 s.f3 s.f4 = some (sk, ins2 s su, 0) := by
  rw [rule_tells k hk sk su hR, if_pos ⟨h1, h2, h3⟩, h4, if_neg (by simp), if_neg h5]
theorem alive_tells : tarrylaw07_alive.f 200 = some true := by decide +kernel
theorem eta (x : S22) : (⟨x.f0, x.f1, x.f2, x.f3, x.f4⟩ : S22) = x := rfl
theorem stay_loop (k : Nat) (sa : List ByteArray) (ub : List S22) (r : List S22) (sk : List ByteArray) (su : List S22) (e : Int) (a b : S22) : ∀ (xs : List S22) (c : Nat), c + xs.length ≤ 1000 → (∀ x ∈ xs, x.f2 = a.f2 → x = a) →
    tarrylaw07_GoodsStay.r3 k sa ub r sk su e a.f0 a.f1 a.f2 a.f3 a.f4 b.f0 b.f1 b.f2 b.f3 b.f4 xs (c : Int) = tarrylaw07_GoodsStay.j2 k sa ub sk su e a.f0 a.f1 a.f2 a.f3 a.f4 b.f0 b.f1 b.f2 b.f3 b.f4 ((c + (xs.filter (fun x => x.f2 == a.f2)).length : Nat) : Int) := by
  intro xs
  induction xs with
  | nil => intro c _ _; rw [tarrylaw07_GoodsStay.r3]; simp
  | cons x xs ih =>
    intro c hc h
    simp only [List.length_cons] at hc
    rw [tarrylaw07_GoodsStay.r3]
    by_cases h2 : x.f2 = a.f2
    · have hx := h x (by simp) h2
      subst hx
      rw [if_pos rfl, if_pos (by simp [beq_is]), show wrap64 ((c : Int) + 1) = ((c + 1 : Nat) : Int) by unfold wrap64; omega, ih (c + 1) (by omega) (fun y hy => h y (by simp [hy]))]
      rw [List.filter_cons_of_pos (by simp), List.length_cons]
      congr 2
      omega
    · rw [if_neg h2, ih c (by omega) (fun y hy => h y (by simp [hy])), List.filter_cons_of_neg (by simpa using h2)]
theorem GoodsStay : tarrylaw07_GoodsStay.Pure := by
  unfold tarrylaw07_GoodsStay.Pure
  intro l0 l1 z0 z1 z2 z3 z4 w0 w1 w2 w3 w4 _ _ _ _ _ _ _ _ _ _ _ _
  refine ⟨200, ?_⟩
  have hk : 100 ≤ 200 := by decide
  obtain ⟨sk, su, hf, hl1, hl2, hsk, hsu⟩ := few_tells 200 hk l0 l1
  obtain ⟨a, ha, ha0, ha1⟩ := cut_tells ⟨z0, z1, z2, z3, z4⟩
  obtain ⟨b, hb, hb0, hb1⟩ := cut_tells ⟨w0, w1, w2, w3, w4⟩
  simp only at ha hb
  unfold tarrylaw07_GoodsStay.f
  rw [hf, Option.bind_some]
  simp only
  rw [ha, Option.bind_some]
  simp only
  rw [hb, Option.bind_some]
  simp only
  obtain ⟨⟨x1, x2, e⟩, h1⟩ : ∃ x, goods_Rule.f 200 sk su a.f0 a.f1 a.f2 a.f3 a.f4 = some x := by
    by_cases hR : Rt sk su
    · exact ⟨_, rule_tells 200 hk sk su hR _⟩
    · exact ⟨_, rule_bad 200 hk sk su (by omega) (by omega) hR _⟩
  rw [h1, Option.bind_some]
  simp only
  by_cases he : e = 0
  · subst he
    rw [if_pos rfl]
    obtain ⟨hR, hm, g0, g1, hq, h16, rfl, rfl⟩ := rule_ok hk (by omega) (by omega) h1
    have hRa := Rt_ins2 hR hm g0 g1 h16 hq
    have hlen := ins2_len a su
    have hla := hRa.l2
    have hl8 := hR.l1
    rw [for_tells 200 hk x1 _ hRa, g0, if_pos rfl, Option.bind_some]
    simp only
    have hq2 : ∀ y ∈ su, lk y a = false := fun y hy => by rw [List.any_eq_false] at hq; simpa using hq y hy
    have hfl := List.length_filter_le (fun x : S22 => x.f0 == a.f0) (ins2 a su)
    have hone : ∀ y ∈ (ins2 a su).filter (fun x => x.f0 == a.f0), y.f2 = a.f2 → y = a := by
      intro y hy h2
      obtain ⟨hy1, hy2⟩ := List.mem_filter.1 hy
      rcases mem_ins2.1 hy1 with rfl | hy1
      · rfl
      · have := (lk_tw (hq2 y hy1)).2.2.2
        rw [beq_is, decide_eq_true_eq] at hy2
        exact absurd ⟨hy2, h2⟩ this
    have hcount : (((ins2 a su).filter (fun x => x.f0 == a.f0)).filter (fun x => x.f2 == a.f2)).length = 1 := by
      have hz : ∀ l : List S22, (∀ y ∈ l, lk y a = false) → (l.filter (fun x => x.f0 == a.f0)).filter (fun x => x.f2 == a.f2) = [] := by
        intro l hl
        rw [List.filter_filter, List.filter_eq_nil_iff]
        intro y hy h
        have := (lk_tw (hl y hy)).2.2.2
        simp only [beq_is, Bool.and_eq_true, beq_iff_eq, decide_eq_true_eq] at h
        exact this ⟨h.2, h.1⟩
      unfold ins2
      rw [List.filter_append, List.filter_append, List.filter_append, List.filter_append, hz _ (fun y hy => hq2 y ((mem_tw_dw (fun y => decide (sb y a)) su y).1 (.inl hy))), hz _ (fun y hy => hq2 y ((mem_tw_dw (fun y => decide (sb y a)) su y).1 (.inr hy)))]
      simp [beq_is]
    have := tarrylaw07_GoodsStay.r3_eq 200 x1 (ins2 a su) ((ins2 a su).filter (fun x => x.f0 == a.f0)) x1 su 0 a.f0 a.f1 a.f2 a.f3 a.f4 b.f0 b.f1 b.f2 b.f3 b.f4 (by omega) 200 0 0 (by omega) (by omega)
    rw [show ((0 : Nat) : Int) = 0 from rfl, List.drop_zero] at this
    rw [this]
    have hlp := stay_loop 200 x1 (ins2 a su) ((ins2 a su).filter (fun x => x.f0 == a.f0)) x1 su 0 a b _ 0 (by omega) hone
    rw [show ((0 : Nat) : Int) = 0 from rfl] at hlp
    rw [hlp, hcount]
    unfold tarrylaw07_GoodsStay.j2
    obtain ⟨c, r1, r2⟩ := right_tells 200 hk x1 (ins2 a su) (by omega) (by omega)
    obtain rfl := r2.2 hRa
    rw [if_pos rfl, if_pos (by rfl), r1, Option.bind_some, if_pos rfl, alive_tells, Option.bind_some, if_pos rfl]
    obtain ⟨⟨y1, y2, h⟩, h2⟩ : ∃ x, goods_Rule.f 200 x1 (ins2 a su) b.f0 b.f1 b.f2 b.f3 b.f4 = some x := ⟨_, rule_tells 200 hk x1 _ hRa _⟩
    obtain ⟨⟨v1, v2, i⟩, h3⟩ : ∃ x, goods_Rule.f 200 x1 su b.f0 b.f1 b.f2 b.f3 b.f4 = some x := ⟨_, rule_tells 200 hk x1 _ hR _⟩
    rw [h2, Option.bind_some]
    simp only
    rw [h3, Option.bind_some]
    simp only
    by_cases hh : h = 0
    · subst hh
      rw [if_pos rfl]
      obtain ⟨_, km, k0, k1, kq, k16, rfl, rfl⟩ := rule_ok hk (by omega) (by omega) h2
      have kq2 : ∀ y ∈ ins2 a su, lk y b = false := fun y hy => by rw [List.any_eq_false] at kq; simpa using kq y hy
      have nq : su.any (fun y => lk y b) = false := by rw [List.any_eq_false]; exact fun y hy => by simpa using kq2 y (mem_ins2.2 (.inr hy))
      have hz := rule_does hk hR km k0 k1 nq h16
      rw [h3] at hz
      cases hz
      have hRb := Rt_ins2 hR km k0 k1 h16 nq
      have hlenb := ins2_len b su
      have mq : (ins2 b su).any (fun y => lk y a) = false := by
        rw [List.any_eq_false]
        intro y hy
        rcases mem_ins2.1 hy with rfl | hy
        · have := (lk_tw (kq2 a (mem_ins2.2 (.inl rfl)))).2.2.1
          simpa using this
        · simpa using hq2 y hy
      have hw := rule_does hk hRb hm g0 g1 mq (by omega)
      rw [hw, Option.bind_some]
      simp only
      have hab := Rt_ins2 hRa km k0 k1 k16 kq
      have hba := Rt_ins2 hRb hm g0 g1 (by omega) mq
      have heq : ins2 b (ins2 a su) = ins2 a (ins2 b su) := ins_turn hab hba fun x => by
        rw [mem_ins2, mem_ins2, mem_ins2, mem_ins2]
        grind
      have hll := ins2_len a (ins2 b su)
      rw [heq, if_pos trivial, if_pos trivial, like_self 200 _ _ (by omega) (by omega) (by omega) (by omega)]
      rfl
    · rw [if_neg hh]
  · rw [if_neg he, alive_tells]
    rfl
end Go.Proofs.Ytoiihpmncphplaa.Pure
