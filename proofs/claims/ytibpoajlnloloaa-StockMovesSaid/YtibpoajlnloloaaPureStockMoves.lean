/- StockMoves: which stock may be, any row, and what coming in, holding, releasing, shipping and losing makes of any, is as the document says, or refused; no further condition. -/
import Derived.Test.YtibpoajlnloloaaRStockMoves
namespace Go.Proofs.Ytibpoajlnloloaa.Pure
open Go Go.RowKit Go.Proofs.Ytibpoajlnloloaa.PStockMoves Go.Proofs.YtibpoajlnloloaaV 
set_option linter.unusedSimpArgs false
set_option linter.unusedVariables false
theorem take_drop0 {α : Type} (l : List α) (i : Nat) : (l.take i).drop 0 = l.take i := rfl
theorem w64n {n : Int} (h1 : -9000000000000000000 ≤ n) (h2 : n ≤ 9000000000000000000) : wrap64 n = n := by unfold wrap64; omega
/-- A binary search's middle. -/
theorem mid_is {i j : Nat} (hi : i ≤ 1000000) (hj : j ≤ 1000000) : wrap64 ((IntKind.u64.wrap (wrap64 ((i : Int) + (j : Int)))).fdiv (2 ^ min (1 : Int).toNat IntKind.u64.bits)) = (((i + j) / 2 : Nat) : Int) := by
  have e1 : wrap64 ((i : Int) + (j : Int)) = ((i + j : Nat) : Int) := by unfold wrap64; omega
  have e2 : IntKind.u64.wrap ((i + j : Nat) : Int) = ((i + j : Nat) : Int) := by
    have h : IntKind.u64.wrap ((i + j : Nat) : Int) = ((i + j : Nat) : Int) % 18446744073709551616 := rfl
    rw [h]
    omega
  have e3 : (2 : Int) ^ min (1 : Int).toNat IntKind.u64.bits = 2 := by decide
  rw [e1, e2, e3, Int.fdiv_eq_ediv_of_nonneg _ (by decide)]
  unfold wrap64
  omega
/-- The things ahead of the first one that is not so. -/
theorem tw_len_le {α : Type} (p : α → Bool) (l : List α) : (l.takeWhile p).length ≤ l.length := by
  induction l with
  | nil => simp
  | cons x xs ih => rw [List.takeWhile_cons]; split <;> simp <;> omega
theorem tw_lt {α : Type} (p : α → Bool) : ∀ (l : List α) (i : Nat) (x : α), l[i]? = some x → i < (l.takeWhile p).length → p x = true
  | [], i, x, h, _ => by simp at h
  | y :: l, 0, x, h, hi => by
    simp only [List.getElem?_cons_zero, Option.some.injEq] at h
    subst h
    rw [List.takeWhile_cons] at hi
    by_cases hp : p y = true
    · exact hp
    · rw [if_neg hp] at hi; simp at hi
  | y :: l, i + 1, x, h, hi => by
    simp only [List.getElem?_cons_succ] at h
    rw [List.takeWhile_cons] at hi
    split at hi
    · exact tw_lt p l i x h (by simpa using hi)
    · simp at hi
theorem tw_at {α : Type} (p : α → Bool) : ∀ (l : List α) (x : α), l[(l.takeWhile p).length]? = some x → p x = false
  | [], x, h => by simp at h
  | y :: l, x, h => by
    rw [List.takeWhile_cons] at h
    by_cases hp : p y = true
    · rw [if_pos hp] at h
      simp only [List.length_cons, List.getElem?_cons_succ] at h
      exact tw_at p l x h
    · rw [if_neg hp] at h
      simp only [List.length_nil, List.getElem?_cons_zero, Option.some.injEq] at h
      subst h
      simpa using hp
/-- Where what is so stands ahead of what is not. -/
def Downs {α : Type} (p : α → Bool) (l : List α) : Prop := ∀ (i j : Nat) (x y : α), i < j → l[i]? = some x → l[j]? = some y → p y = true → p x = true
theorem tw_ge {α : Type} {p : α → Bool} {l : List α} (h : Downs p l) {i : Nat} {x : α} (hx : l[i]? = some x) (hi : (l.takeWhile p).length ≤ i) : p x = false := by
  have hl := (List.getElem?_eq_some_iff.1 hx).1
  obtain ⟨y, hn⟩ : ∃ y, l[(l.takeWhile p).length]? = some y := ⟨_, List.getElem?_eq_getElem (by omega)⟩
  have h0 := tw_at p l _ hn
  rcases Nat.lt_or_eq_of_le hi with h1 | h1
  · cases hp : p x with
    | false => rfl
    | true => rw [h _ _ _ _ h1 hn hx hp] at h0; cases h0
  · rw [h1, hx] at hn
    obtain rfl := Option.some.inj hn
    exact h0
theorem take_tw {α : Type} (p : α → Bool) (l : List α) : l.take (l.takeWhile p).length = l.takeWhile p := by
  induction l with
  | nil => rfl
  | cons x xs ih => rw [List.takeWhile_cons]; split <;> simp [ih]
theorem drop_tw {α : Type} (p : α → Bool) (l : List α) : l.drop (l.takeWhile p).length = l.dropWhile p := by
  induction l with
  | nil => rfl
  | cons x xs ih => rw [List.takeWhile_cons, List.dropWhile_cons]; split <;> simp [ih]
theorem pw_get {α : Type} {R : α → α → Prop} {l : List α} (h : l.Pairwise R) {i j : Nat} {x y : α} (hij : i < j) (hx : l[i]? = some x) (hy : l[j]? = some y) : R x y := by
  obtain ⟨h1, rfl⟩ := List.getElem?_eq_some_iff.1 hx
  obtain ⟨h2, rfl⟩ := List.getElem?_eq_some_iff.1 hy
  exact List.pairwise_iff_getElem.1 h i j h1 h2 hij
theorem pw_of_get {α : Type} {R : α → α → Prop} {l : List α} (h : ∀ (i j : Nat) (x y : α), i < j → l[i]? = some x → l[j]? = some y → R x y) : l.Pairwise R :=
  List.pairwise_iff_getElem.2 fun i j h1 h2 hij => h i j _ _ hij (List.getElem?_eq_getElem h1) (List.getElem?_eq_getElem h2)
theorem drop_cons_is {α : Type} {l : List α} {i : Nat} {x : α} {xs : List α} (h : l.drop i = x :: xs) : i < l.length ∧ l[i]? = some x ∧ l.drop (i + 1) = xs := by
  have h1 : i < l.length := by have := congrArg List.length h; simp at this; omega
  rw [List.drop_eq_getElem_cons h1] at h
  obtain ⟨h2, h3⟩ := List.cons.inj h
  exact ⟨h1, by rw [List.getElem?_eq_getElem h1, h2], h3⟩
theorem drop_nil_is {α : Type} {l : List α} {i : Nat} (h : l.drop i = []) : l.length ≤ i := by have := congrArg List.length h; simp at this; omega
theorem filter_split {α : Type} (p : α → Bool) (l : List α) : (l.filter p).length + (l.filter (fun x => !p x)).length = l.length := by
  induction l with
  | nil => rfl
  | cons x xs ih => by_cases h : p x = true <;> simp [List.filter_cons, h] <;> omega
theorem mem_tw_dw {α : Type} (p : α → Bool) (l : List α) (y : α) : (y ∈ l.takeWhile p ∨ y ∈ l.dropWhile p) ↔ y ∈ l := by
  rw [← List.mem_append, List.takeWhile_append_dropWhile]
theorem mem_tw {α : Type} {p : α → Bool} {l : List α} {y : α} (h : y ∈ l.takeWhile p) : p y = true := by
  obtain ⟨i, hi⟩ := List.getElem?_of_mem h
  have hlt := (List.getElem?_eq_some_iff.1 hi).1
  rw [← take_tw, List.getElem?_take, if_pos hlt] at hi
  exact tw_lt p l i y hi hlt
theorem mem_dw {α : Type} {p : α → Bool} {l : List α} (hd : Downs p l) {y : α} (h : y ∈ l.dropWhile p) : p y = false := by
  obtain ⟨i, hi⟩ := List.getElem?_of_mem h
  rw [← drop_tw, List.getElem?_drop] at hi
  exact tw_ge hd hi (by omega)
/-- Two rows that rise, of the same things, are the same row. -/
theorem eq_of_rise {α : Type} {R : α → α → Prop} (irr : ∀ a b, R a b → ¬ R b a) : ∀ (l l' : List α), l.Pairwise R → l'.Pairwise R → (∀ x, x ∈ l ↔ x ∈ l') → l = l'
  | [], [], _, _, _ => rfl
  | [], b :: l', _, _, h => by have := (h b).2 (by simp); cases this
  | a :: l, [], _, _, h => by have := (h a).1 (by simp); cases this
  | a :: l, b :: l', h1, h2, h => by
    rw [List.pairwise_cons] at h1 h2
    have hab : a = b := by
      rcases List.mem_cons.1 ((h a).1 (by simp)) with e | e
      · exact e
      rcases List.mem_cons.1 ((h b).2 (by simp)) with e2 | e2
      · exact e2.symm
      exact absurd (h1.1 b e2) (irr _ _ (h2.1 a e))
    subst hab
    have hna : ∀ x, R x x → False := fun x hx => irr x x hx hx
    rw [eq_of_rise irr l l' h1.2 h2.2 fun x => ⟨fun hx => ?_, fun hx => ?_⟩]
    · rcases List.mem_cons.1 ((h x).1 (by simp [hx])) with e | e
      · subst e; exact absurd (h1.1 _ hx) (hna _)
      · exact e
    · rcases List.mem_cons.1 ((h x).2 (by simp [hx])) with e | e
      · subst e; exact absurd (h2.1 _ hx) (hna _)
      · exact e
theorem filter_tw {α : Type} {p : α → Bool} : ∀ {l : List α}, Downs p l → l.filter p = l.takeWhile p
  | [], _ => rfl
  | x :: xs, h => by
    by_cases hx : p x = true
    · rw [List.filter_cons, if_pos hx, List.takeWhile_cons, if_pos hx, filter_tw (l := xs) fun i j a b hij ha hb hp => h (i + 1) (j + 1) a b (by omega) (by simpa using ha) (by simpa using hb) hp]
    · rw [List.takeWhile_cons, if_neg hx, List.filter_eq_nil_iff]
      intro y hy hp
      obtain ⟨j, hj⟩ := List.getElem?_of_mem hy
      cases j with
      | zero => simp at hj; subst hj; exact hx hp
      | succ j => exact hx (h 0 (j + 1) x y (by omega) rfl hj hp)
theorem tw_mono {α : Type} {p q : α → Bool} (h : ∀ x, p x = true → q x = true) (l : List α) : (l.takeWhile p).length ≤ (l.takeWhile q).length := by
  induction l with
  | nil => simp
  | cons x xs ih =>
    rw [List.takeWhile_cons, List.takeWhile_cons]
    by_cases hx : p x = true
    · rw [if_pos hx, if_pos (h x hx)]; simp; omega
    · rw [if_neg hx]; simp
theorem pw_of_adj {α : Type} {R : α → α → Prop} (tr : ∀ {a b c}, R a b → R b c → R a c) {l : List α} (h : ∀ (i : Nat) (x y : α), l[i]? = some x → l[i + 1]? = some y → R x y) : l.Pairwise R := by
  have hall : ∀ (d i : Nat) (x y : α), l[i]? = some x → l[i + 1 + d]? = some y → R x y := by
    intro d
    induction d with
    | zero => intro i x y hx hy; exact h i x y hx hy
    | succ d ih =>
      intro i x y hx hy
      have hlt := (List.getElem?_eq_some_iff.1 hy).1
      have hz : l[i + 1 + d]? = some l[i + 1 + d] := List.getElem?_eq_getElem (by omega)
      exact tr (ih i x _ hx hz) (h (i + 1 + d) _ y hz hy)
  exact pw_of_get fun i j x y hij hx hy => hall (j - i - 1) i x y hx (by rw [show i + 1 + (j - i - 1) = j by omega]; exact hy)
theorem ba_toList_loop (a : ByteArray) : ∀ (d i : Nat) (r : List UInt8), a.size - i = d → ByteArray.toList.loop a i r = r.reverse ++ a.data.toList.drop i := by
  intro d
  induction d with
  | zero =>
    intro i r h
    unfold ByteArray.toList.loop
    have h1 : ¬ i < a.size := by omega
    rw [if_neg h1, List.drop_eq_nil_of_le (by show a.data.toList.length ≤ i; rw [Array.length_toList]; exact Nat.le_of_not_lt h1), List.append_nil]
  | succ d ih =>
    intro i r h
    unfold ByteArray.toList.loop
    have h1 : i < a.size := by omega
    have h2 : i < a.data.toList.length := by rw [Array.length_toList]; exact h1
    rw [if_pos h1, ih (i + 1) _ (by omega), List.reverse_cons, List.append_assoc, List.drop_eq_getElem_cons h2]
    have h3 : a.get! i = a.data.toList[i] := by
      show a.data[i]! = _
      rw [getElem!_pos a.data i h1]
      rfl
    rw [h3]
    rfl
theorem ba_toList (a : ByteArray) : a.toList = a.data.toList := by
  unfold ByteArray.toList
  rw [ba_toList_loop a a.size 0 [] (by omega)]
  rfl
/-! ### texts in order -/
theorem cb_self : ∀ l : List UInt8, Lib.compareBytes l l = 0
  | [] => rfl
  | a :: l => by
    have : ¬ a < a := by simp [UInt8.lt_iff_toNat_lt]
    rw [Lib.compareBytes, if_neg this, if_neg this]
    exact cb_self l
theorem cb_eq : ∀ (a b : List UInt8), Lib.compareBytes a b = 0 → a = b
  | [], [], _ => rfl
  | [], _ :: _, h => by rw [Lib.compareBytes] at h; omega
  | _ :: _, [], h => by rw [Lib.compareBytes] at h; omega
  | a :: xs, b :: ys, h => by
    rw [Lib.compareBytes] at h
    split at h
    · omega
    · split at h
      · omega
      · rename_i h1 h2
        have : a = b := by
          apply UInt8.toNat_inj.1
          simp only [UInt8.lt_iff_toNat_lt] at h1 h2
          omega
        rw [this, cb_eq xs ys h]
theorem cb_anti : ∀ (a b : List UInt8), Lib.compareBytes a b = - Lib.compareBytes b a
  | [], [] => rfl
  | [], _ :: _ => rfl
  | _ :: _, [] => rfl
  | a :: xs, b :: ys => by
    rw [Lib.compareBytes, Lib.compareBytes, cb_anti xs ys]
    simp only [UInt8.lt_iff_toNat_lt]
    split <;> split <;> omega
theorem cb_trans : ∀ (a b c : List UInt8), Lib.compareBytes a b < 0 → Lib.compareBytes b c < 0 → Lib.compareBytes a c < 0
  | [], [], _, h, _ => by rw [Lib.compareBytes] at h; omega
  | [], _ :: _, [], _, h => by rw [Lib.compareBytes] at h; omega
  | [], _ :: _, _ :: _, _, _ => by rw [Lib.compareBytes]; omega
  | _ :: _, [], _, h, _ => by rw [Lib.compareBytes] at h; omega
  | _ :: _, _ :: _, [], _, h => by rw [Lib.compareBytes] at h; omega
  | a :: xs, b :: ys, c :: zs, h1, h2 => by
    have ih := cb_trans xs ys zs
    rw [Lib.compareBytes] at h1 h2 ⊢
    simp only [UInt8.lt_iff_toNat_lt] at *
    split at h1
    · split at h2
      · rw [if_pos (by omega)]; omega
      · split at h2
        · omega
        · rw [if_pos (by omega)]; omega
    · split at h1
      · omega
      · split at h2
        · rw [if_pos (by omega)]; omega
        · split at h2
          · omega
          · rw [if_neg (by omega), if_neg (by omega)]
            exact ih h1 h2
theorem bl_is : ∀ (a b : List UInt8), Op.bytesLess a b = decide (Lib.compareBytes a b < 0)
  | [], [] => rfl
  | [], _ :: _ => rfl
  | _ :: _, [] => rfl
  | a :: xs, b :: ys => by
    rw [Op.bytesLess, Lib.compareBytes, bl_is xs ys]
    simp only [UInt8.lt_iff_toNat_lt]
    by_cases h1 : a.toNat < b.toNat
    · simp [h1]
    · by_cases h2 : b.toNat < a.toNat
      · have : ¬ a = b := fun e => by rw [e] at h2; omega
        simp [h1, h2, this]
      · have : a = b := UInt8.toNat_inj.1 (by omega)
        simp [this]
def sc (a b : ByteArray) : Int := Lib.compareBytes a.data.toList b.data.toList
def sl (a b : ByteArray) : Prop := sc a b < 0
instance (a b : ByteArray) : Decidable (sl a b) := by unfold sl; exact inferInstance
theorem sl_trans {a b c : ByteArray} (h1 : sl a b) (h2 : sl b c) : sl a c := cb_trans _ _ _ h1 h2
theorem sc_self (a : ByteArray) : sc a a = 0 := cb_self _
theorem sc_anti (a b : ByteArray) : sc a b = - sc b a := cb_anti _ _
theorem sc_eq {a b : ByteArray} : sc a b = 0 ↔ a = b := by
  refine ⟨fun h => ?_, fun h => by rw [h]; exact sc_self b⟩
  have := cb_eq _ _ h
  cases a with
  | mk a =>
    cases b with
    | mk b => simpa using this
theorem sl_irr (a : ByteArray) : ¬ sl a a := by unfold sl; rw [sc_self]; decide
theorem sl_asymm {a b : ByteArray} (h : sl a b) : ¬ sl b a := by unfold sl at *; rw [sc_anti b a]; omega
theorem sl_tri {a b : ByteArray} (h : ¬ sl a b) (hne : a ≠ b) : sl b a := by
  unfold sl at *
  rw [sc_anti b a]
  have : sc a b ≠ 0 := fun e => hne (sc_eq.1 e)
  omega
theorem bytesLess_is (a b : ByteArray) : Op.bytesLess a.toList b.toList = decide (sl a b) := by rw [ba_toList, ba_toList]; exact bl_is _ _
/-! ### bytes -/
theorem bt_is {s : ByteArray} {i : Nat} (h : i < s.size) : (byI s)[i]? = some (bt s i) := by
  unfold byI bt
  rw [List.getElem?_map, Array.getElem?_toList, Int.toNat_natCast, dif_pos h]
  have : s.data[i]? = some s.data[i] := Array.getElem?_eq_getElem h
  rw [this]
  rfl
theorem byI_sl (a b : ByteArray) : a.data.toList.map (fun c => (c.toNat : Int)) = byI a := rfl
def charB (c : Int) : Bool := (decide (97 ≤ c) && decide (c ≤ 122)) || (decide (48 ≤ c) && decide (c ≤ 57))
theorem charB_eq (c : Int) : charB c = decide ((97 ≤ c ∧ c ≤ 122) ∨ (48 ≤ c ∧ c ≤ 57)) := by
  unfold charB
  simp only [Bool.decide_or, Bool.decide_and]
/-- May a text be a name? -/
def nm (s : ByteArray) : Bool := decide (s.size ≠ 0) && (decide (s.size ≤ 16) && (byI s).all charB)
theorem beq_is (a b : ByteArray) : (a == b) = decide (a = b) := by
  rw [beq_toListBytes, ba_toList, ba_toList, Bool.eq_iff_iff, beq_iff_eq, decide_eq_true_eq]
  refine ⟨fun h => ?_, fun h => by rw [h]⟩
  cases a with
  | mk a =>
    cases b with
    | mk b => simpa using h
theorem nil_is (s : ByteArray) : (s == (⟨#[]⟩ : ByteArray)) = decide (s.size = 0) := by
  rw [beq_is, decide_eq_decide]
  refine ⟨fun h => by rw [h]; rfl, fun h => ?_⟩
  cases s with
  | mk d =>
    have : d = #[] := Array.eq_empty_of_size_eq_zero h
    rw [this]
theorem odd_tells (c : Int) : goods_name_1.f c = some (!charB c) := by
  unfold goods_name_1.f
  rw [charB_eq]
  by_cases hP : (97 ≤ c ∧ c ≤ 122) ∨ (48 ≤ c ∧ c ≤ 57)
  · rw [decide_eq_true hP]
    (repeat' split) <;> first | rfl | omega | (rw [decide_eq_false (by omega)]; rfl)
  · rw [decide_eq_false hP]
    (repeat' split) <;> first | rfl | omega | (rw [decide_eq_true (by omega)]; rfl)
theorem bytes_tells (k : Nat) (l : List Int) (hk : l.length < k) (hs : l.length < 1000000) : slices_ContainsFunc_byte_byte.f k l = some (l.any (fun c => !charB c)) := by
  have key : ∀ (xs : List Int) (i : Nat), ∃ j, slices_IndexFunc_byte_byte.r1 k l xs i = some j ∧ decide (j ≥ 0) = xs.any (fun c => !charB c) := by
    intro xs
    induction xs with
    | nil => intro i; exact ⟨-1, rfl, rfl⟩
    | cons x xs ih =>
      intro i
      rw [slices_IndexFunc_byte_byte.r1, odd_tells, Option.bind_some, List.any_cons]
      cases charB x with
      | false => exact ⟨i, rfl, by simp⟩
      | true => simpa using ih (i + 1)
  unfold slices_ContainsFunc_byte_byte.f slices_IndexFunc_byte_byte.f
  have := slices_IndexFunc_byte_byte.r1_eq k l (by omega) k 0 (by omega) (by omega)
  rw [show ((0 : Nat) : Int) = 0 from rfl, List.drop_zero] at this
  rw [this]
  obtain ⟨j, h1, h2⟩ := key l 0
  rw [h1, Option.bind_some, h2]
theorem name_tells (k : Nat) (hk : 20 ≤ k) (s : ByteArray) : goods_name.f k s = some (nm s) := by
  unfold goods_name.f nm
  rw [nil_is]
  by_cases h0 : s.size = 0
  · simp [h0]
  · rw [if_neg (by simpa using h0)]
    by_cases h1 : s.size ≤ 16
    · rw [if_pos (by omega), if_pos (by omega), bytes_tells k _ (by rw [byI_len]; omega) (by rw [byI_len]; omega), Option.bind_some]
      have : (byI s).any (fun c => !charB c) = !(byI s).all charB := by rw [List.not_all_eq_any_not]
      rw [this]
      cases (byI s).all charB <;> simp [h0, h1]
    · rw [if_neg (by omega)]
      simp [h1]
theorem csub_nil (k : Nat) : True := trivial
theorem gright_one (k : Nat) (hk : 20 ≤ k) (s : ByteArray) : goods_Right.f k [s] [] = some (nm s) := by
  obtain ⟨k, rfl⟩ : ∃ q, k = q + 2 := ⟨k - 2, by omega⟩
  have h1 : slices_ContainsFunc_string_string.f (k + 2) [s] = some (!nm s) := by
    unfold slices_ContainsFunc_string_string.f slices_IndexFunc_string_string.f
    have := slices_IndexFunc_string_string.r1_eq (k + 2) [s] (by simp) (k + 2) 0 (by simp) (by simp)
    rw [show ((0 : Nat) : Int) = 0 from rfl, List.drop_zero] at this
    rw [this, slices_IndexFunc_string_string.r1, goods_Right_2.f, name_tells (k + 2) hk, Option.bind_some]
    cases nm s <;> rfl
  have h2 : goods_rising_string.f (k + 2) [s] 8 = some true := by
    unfold goods_rising_string.f
    rw [goods_rising_string.l1, if_neg (by simp)]
    rfl
  have h3 : goods_rising_Sub.f (k + 2) [] 16 = some true := by
    unfold goods_rising_Sub.f
    rw [goods_rising_Sub.l1, if_neg (by simp)]
    rfl
  unfold goods_Right.f
  rw [goods_Right.l1, if_neg (by simp), h1, Option.bind_some, h2, Option.bind_some, h3]
  cases nm s <;> rfl
theorem rname_tells (k : Nat) (s : ByteArray) (hs : s.size ≤ 1000) (hk : s.size < k) : tarryref07_Name.f k s = some (nm s) := by
  have key : ∀ (d m i : Nat), i + d = s.size → d < m → tarryref07_Name.l1 k s m (i : Int) = some (decide (s.size ≠ 0) && (decide (s.size ≤ 16) && ((byI s).drop i).all charB)) := by
    intro d
    induction d with
    | zero =>
      intro m i hi hm
      obtain ⟨m, rfl⟩ : ∃ q, m = q + 1 := ⟨m - 1, by omega⟩
      rw [tarryref07_Name.l1, if_neg (by omega), List.drop_of_length_le (by rw [byI_len]; omega)]
      by_cases h0 : s.size = 0
      · rw [if_neg (by omega)]; simp [h0]
      · rw [if_pos (by omega)]; simp [h0]; omega
    | succ d ih =>
      intro m i hi hm
      obtain ⟨m, rfl⟩ : ∃ q, m = q + 1 := ⟨m - 1, by omega⟩
      have hlt : i < s.size := by omega
      have hl : i < (byI s).length := by rw [byI_len]; exact hlt
      have hb : (byI s)[i] = bt s i := by have := bt_is hlt; rw [List.getElem?_eq_getElem hl] at this; exact Option.some.inj this
      have hw : wrap64 ((i : Int) + 1) = ((i + 1 : Nat) : Int) := by unfold wrap64; omega
      rw [tarryref07_Name.l1, if_pos (by omega), if_pos (by omega), if_pos (by omega), hw, ih m (i + 1) (by omega) (by omega), List.drop_eq_getElem_cons hl, List.all_cons, hb, charB_eq]
      have hn0 : s.size ≠ 0 := by omega
      by_cases hP : (97 ≤ bt s i ∧ bt s i ≤ 122) ∨ (48 ≤ bt s i ∧ bt s i ≤ 57)
      · rw [decide_eq_true hP, Bool.true_and]
        (repeat' split) <;> first | rfl | omega
      · rw [decide_eq_false hP, Bool.false_and, Bool.and_false, Bool.and_false]
        (repeat' split) <;> first | rfl | omega
  unfold tarryref07_Name.f nm
  have := key s.size k 0 (by omega) hk
  rw [List.drop_zero] at this
  exact this
theorem rless_tells (k : Nat) (a b : ByteArray) (ha : a.size ≤ 1000) (hk : a.size < k) : tarryref07_Less.f k a b = some (decide (sl a b)) := by
  have bts : ∀ (s : ByteArray) (i : Nat) (h : i < s.data.toList.length), bt s (i : Int) = (s.data.toList[i].toNat : Int) := by
    intro s i h
    have h2 : i < s.size := by rw [Array.length_toList] at h; exact h
    unfold bt
    rw [Int.toNat_natCast, dif_pos h2]
    rfl
  have la : a.data.toList.length = a.size := Array.length_toList
  have lb : b.data.toList.length = b.size := Array.length_toList
  have key : ∀ (d m i : Nat), i + d = a.size → d < m → i ≤ b.size → tarryref07_Less.l1 k a b m (i : Int) = some (decide (Lib.compareBytes (a.data.toList.drop i) (b.data.toList.drop i) < 0)) := by
    intro d
    induction d with
    | zero =>
      intro m i hi hm hib
      obtain ⟨m, rfl⟩ : ∃ q, m = q + 1 := ⟨m - 1, by omega⟩
      rw [tarryref07_Less.l1, if_neg (by omega), List.drop_of_length_le (show a.data.toList.length ≤ i by omega)]
      rcases Nat.lt_or_ge i b.size with h | h
      · rw [List.drop_eq_getElem_cons (show i < b.data.toList.length by omega), Lib.compareBytes]
        simp; omega
      · rw [List.drop_of_length_le (show b.data.toList.length ≤ i by omega), Lib.compareBytes]
        simp; omega
    | succ d ih =>
      intro m i hi hm hib
      obtain ⟨m, rfl⟩ : ∃ q, m = q + 1 := ⟨m - 1, by omega⟩
      have hlt : i < a.data.toList.length := by omega
      have hw : wrap64 ((i : Int) + 1) = ((i + 1 : Nat) : Int) := by unfold wrap64; omega
      rw [tarryref07_Less.l1, if_pos (by omega), List.drop_eq_getElem_cons hlt]
      rcases Nat.lt_or_ge i b.size with h | h
      · have hlb : i < b.data.toList.length := by omega
        rw [if_pos (by omega), if_pos (by omega), if_pos (by omega), if_pos (by omega), List.drop_eq_getElem_cons hlb, Lib.compareBytes, hw, ih m (i + 1) (by omega) (by omega) (by omega), bts a i hlt, bts b i hlb]
        generalize a.data.toList[i] = x
        generalize b.data.toList[i] = y
        simp only [UInt8.lt_iff_toNat_lt]
        by_cases h1 : x.toNat = y.toNat
        · rw [if_pos (by omega), if_neg (by omega), if_neg (by omega)]
        · rw [if_neg (by omega)]
          by_cases h2 : x.toNat < y.toNat
          · rw [if_pos h2]; simp; omega
          · rw [if_neg h2, if_pos (by omega)]; simp; omega
      · rw [if_neg (by omega), List.drop_of_length_le (show b.data.toList.length ≤ i by omega), Lib.compareBytes]
        simp; omega
  unfold tarryref07_Less.f
  have := key a.size k 0 (by omega) hk (Nat.zero_le _)
  rw [List.drop_zero, List.drop_zero] at this
  exact this
def inU (n : Int) : Prop := 0 ≤ n ∧ n ≤ 1073741824
instance (n : Int) : Decidable (inU n) := by unfold inU; exact inferInstance
def mayR (x : S32) : Prop := nm x.f0 = true ∧ inU x.f1 ∧ inU x.f2 ∧ inU x.f3 ∧ inU x.f4 ∧ inU x.f5 ∧ x.f1 = x.f2 + x.f3 + x.f4 + x.f5
instance (x : S32) : Decidable (mayR x) := by unfold mayR; exact inferInstance
theorem sname_tells (k : Nat) (hk : 20 ≤ k) (s : ByteArray) : stock_name.f k s = some (nm s) := by
  unfold stock_name.f
  rw [gright_one k hk, Option.bind_some]
theorem units_tells (n : Int) : stock_units.f n = some (decide (1 ≤ n ∧ n ≤ 1073741824)) := by
  unfold stock_units.f
  split
  · congr 1; rw [decide_eq_decide]; omega
  · congr 1; symm; apply decide_eq_false; omega
theorem oddn_tells (n : Int) : stock_may_1.f n = some (!decide (inU n)) := by
  unfold stock_may_1.f
  rw [units_tells]
  by_cases h0 : n = 0
  · rw [if_pos h0, h0]; rfl
  · rw [if_neg h0, Option.bind_some]
    by_cases h1 : 1 ≤ n ∧ n ≤ 1073741824
    · rw [if_pos (decide_eq_true h1), decide_eq_true (by unfold inU; omega)]; rfl
    · rw [if_neg (by simpa using h1), decide_eq_false (by unfold inU; omega)]; rfl
theorem ints_tells (k : Nat) (l : List Int) (hk : l.length < k) (hs : l.length < 1000000) : slices_ContainsFunc_int_int.f k l = some (l.any (fun c => !decide (inU c))) := by
  have key : ∀ (xs : List Int) (i : Nat), ∃ j, slices_IndexFunc_int_int.r1 k l xs i = some j ∧ decide (j ≥ 0) = xs.any (fun c => !decide (inU c)) := by
    intro xs
    induction xs with
    | nil => intro i; exact ⟨-1, rfl, rfl⟩
    | cons x xs ih =>
      intro i
      rw [slices_IndexFunc_int_int.r1, oddn_tells, Option.bind_some, List.any_cons]
      cases decide (inU x) with
      | false => exact ⟨i, rfl, by simp⟩
      | true => simpa using ih (i + 1)
  unfold slices_ContainsFunc_int_int.f slices_IndexFunc_int_int.f
  have := slices_IndexFunc_int_int.r1_eq k l (by omega) k 0 (by omega) (by omega)
  rw [show ((0 : Nat) : Int) = 0 from rfl, List.drop_zero] at this
  rw [this]
  obtain ⟨j, h1, h2⟩ := key l 0
  rw [h1, Option.bind_some, h2]
theorem mayR_tells (k : Nat) (hk : 20 ≤ k) (x : S32) : stock_may.f k x.f0 x.f1 x.f2 x.f3 x.f4 x.f5 = some (decide (mayR x)) := by
  unfold stock_may.f
  rw [sname_tells k hk, Option.bind_some]
  cases hn : nm x.f0 with
  | false => rw [if_neg (by simp), decide_eq_false (by unfold mayR; rw [hn]; simp)]
  | true =>
    rw [if_pos rfl, ints_tells k _ (by simp; omega) (by simp), Option.bind_some]
    by_cases ho : inU x.f1 ∧ inU x.f2 ∧ inU x.f3 ∧ inU x.f4 ∧ inU x.f5
    · rw [if_neg (by simp [ho])]
      obtain ⟨h1, h2, h3, h4, h5⟩ := ho
      have hw : wrap64 ((wrap64 ((wrap64 (x.f2 + x.f3)) + x.f4)) + x.f5) = x.f2 + x.f3 + x.f4 + x.f5 := by
        unfold inU at *
        rw [w64n (n := x.f2 + x.f3) (by omega) (by omega), w64n (n := x.f2 + x.f3 + x.f4) (by omega) (by omega), w64n (by omega) (by omega)]
      rw [hw]
      congr 1
      rw [Bool.eq_iff_iff, beq_iff_eq, decide_eq_true_eq]
      exact ⟨fun e => ⟨hn, h1, h2, h3, h4, h5, e⟩, fun e => e.2.2.2.2.2.2⟩
    · rw [if_pos]
      · rw [decide_eq_false (fun h => ho ⟨h.2.1, h.2.2.1, h.2.2.2.1, h.2.2.2.2.1, h.2.2.2.2.2.1⟩)]
      · simp only [List.any_cons, List.any_nil, Bool.or_false, Bool.or_eq_true, Bool.not_eq_true', decide_eq_false_iff_not]
        by_cases g1 : inU x.f1
        · by_cases g2 : inU x.f2
          · by_cases g3 : inU x.f3
            · by_cases g4 : inU x.f4
              · by_cases g5 : inU x.f5
                · exact absurd ⟨g1, g2, g3, g4, g5⟩ ho
                · simp [g5]
              · simp [g4]
            · simp [g3]
          · simp [g2]
        · simp [g1]
/-- What stock may be. -/
def Rt (l : List S32) : Prop := l.length ≤ 8 ∧ (∀ x ∈ l, mayR x) ∧ l.Pairwise (fun x y => sl x.f0 y.f0)
theorem right_tells (k : Nat) (hk : 20 ≤ k) (l : List S32) (hl : l.length ≤ 18) : ∃ b, stock_Right.f k l = some b ∧ (b = true ↔ Rt l) := by
  have key : ∀ (xs : List S32) (i : Nat), l.drop i = xs → ∃ b, stock_Right.r1 k l xs i = some b ∧ (b = true ↔ l.length ≤ 8 ∧ (∀ x ∈ xs, mayR x) ∧ ∀ (j : Nat) (x y : S32), i ≤ j + 1 → l[j]? = some x → l[j + 1]? = some y → sl x.f0 y.f0) := by
    intro xs
    induction xs with
    | nil =>
      intro i hi
      have hli := drop_nil_is hi
      rw [stock_Right.r1]
      refine ⟨_, rfl, ?_⟩
      rw [decide_eq_true_eq]
      exact ⟨fun h => ⟨by omega, by simp, fun j x y hj hx hy => by have := (List.getElem?_eq_some_iff.1 hy).1; omega⟩, fun h => by have := h.1; omega⟩
    | cons x xs ih =>
      intro i hi
      obtain ⟨hli, hx, hd⟩ := drop_cons_is hi
      obtain ⟨b, h1, h2⟩ := ih (i + 1) hd
      rw [stock_Right.r1, mayR_tells k hk, Option.bind_some]
      by_cases hm : mayR x
      · rw [if_pos (decide_eq_true hm)]
        rcases Nat.eq_zero_or_pos i with hi0 | hi0
        · subst hi0
          rw [if_neg (by omega)]
          refine ⟨b, h1, h2.trans ⟨fun h => ⟨h.1, fun y hy => ?_, fun j x y hj hx hy => h.2.2 j x y (by omega) hx hy⟩, fun h => ⟨h.1, fun y hy => h.2.1 y (by simp [hy]), fun j x y _ hx hy => h.2.2 j x y (by omega) hx hy⟩⟩⟩
          rcases List.mem_cons.1 hy with rfl | hy
          · exact hm
          · exact h.2.1 y hy
        · have hw : wrap64 ((i : Int) - 1) = ((i - 1 : Nat) : Int) := by unfold wrap64; omega
          have hp : l[i - 1]? = some l[i - 1] := List.getElem?_eq_getElem (by omega)
          rw [if_pos (by omega), hw, if_pos (by omega), Int.toNat_natCast, hp, Option.bind_some, bytesLess_is]
          by_cases hs : sl l[i - 1].f0 x.f0
          · rw [if_neg (by simp [hs])]
            refine ⟨b, h1, h2.trans ⟨fun h => ⟨h.1, fun y hy => ?_, fun j u v hj hu hv => ?_⟩, fun h => ⟨h.1, fun y hy => h.2.1 y (by simp [hy]), fun j x y _ hx hy => h.2.2 j x y (by omega) hx hy⟩⟩⟩
            · rcases List.mem_cons.1 hy with rfl | hy
              · exact hm
              · exact h.2.1 y hy
            · rcases Nat.lt_or_ge i (j + 1) with h3 | h3
              · exact h.2.2 j u v (by omega) hu hv
              · obtain rfl : i = j + 1 := by omega
                simp only [Nat.add_sub_cancel] at hs hp
                rw [hp] at hu
                obtain rfl := Option.some.inj hu
                rw [hx] at hv
                obtain rfl := Option.some.inj hv
                exact hs
          · rw [if_pos (by simp [hs])]
            refine ⟨false, rfl, ⟨(fun h => by cases h), fun h => absurd (h.2.2 (i - 1) _ x (by omega) hp (by rw [show i - 1 + 1 = i by omega]; exact hx)) hs⟩⟩
      · rw [if_neg (by simpa using hm)]
        exact ⟨false, rfl, ⟨(fun h => by cases h), fun h => absurd (h.2.1 x (by simp)) hm⟩⟩
  unfold stock_Right.f
  have := stock_Right.r1_eq k l (by omega) k 0 (by omega) (by omega)
  rw [show ((0 : Nat) : Int) = 0 from rfl, List.drop_zero] at this
  rw [this]
  obtain ⟨b, h1, h2⟩ := key l 0 rfl
  refine ⟨b, h1, h2.trans ⟨fun h => ⟨h.1, h.2.1, pw_of_adj (R := fun x y : S32 => sl x.f0 y.f0) (fun h1 h2 => sl_trans h1 h2) fun i x y hx hy => h.2.2 i x y (by omega) hx hy⟩, fun h => ⟨h.1, h.2.1, fun j x y _ hx hy => pw_get h.2.2 (Nat.lt_succ_self j) hx hy⟩⟩⟩
/-- Where a name stands, or would stand. -/
def at_ (s : ByteArray) (l : List S32) : Nat := (l.takeWhile (fun y => decide (sl y.f0 s))).length
theorem downs {l : List S32} (h : Rt l) (s : ByteArray) : Downs (fun y : S32 => decide (sl y.f0 s)) l := fun i j a b hij ha hb hp => by
  have := pw_get h.2.2 hij ha hb
  simp only [decide_eq_true_eq] at hp ⊢
  exact sl_trans this hp
theorem cmp_tells (x : S32) (s : ByteArray) : stock_at_1.f x.f0 x.f1 x.f2 x.f3 x.f4 x.f5 s = some (sc x.f0 s) := rfl
theorem atle (s : ByteArray) (l : List S32) : at_ s l ≤ l.length := tw_len_le _ l
theorem bsearch_tells (k : Nat) (s : ByteArray) (l : List S32) (h : Rt l) (hk2 : l.length < k) : slices_BinarySearchFunc_api_Row_api_Row_string.f k l s = some (((at_ s l : Nat) : Int), match l[at_ s l]? with | some x => decide (x.f0 = s) | none => false) := by
  have hd := downs h s
  have hle := atle s l
  have hl := h.1
  unfold at_ at *
  generalize hn : (l.takeWhile (fun y => decide (sl y.f0 s))).length = n at hle
  have key : ∀ (m i j : Nat), i ≤ n → n ≤ j → j ≤ l.length → j - i < m → slices_BinarySearchFunc_api_Row_api_Row_string.l1 k s l m (i : Int) (j : Int) = some ((n : Int), match l[n]? with | some x => decide (x.f0 = s) | none => false) := by
    intro m
    induction m with
    | zero => intro i j _ _ _ h; omega
    | succ m ih =>
      intro i j h1 h2 h3 h4
      rw [slices_BinarySearchFunc_api_Row_api_Row_string.l1]
      by_cases hij : i < j
      · have hm : (i + j) / 2 < l.length := by omega
        rw [if_pos (by omega), mid_is (by omega) (by omega), if_pos (by omega), Int.toNat_natCast, List.getElem?_eq_getElem hm, Option.bind_some, cmp_tells, Option.bind_some]
        by_cases hc : sc l[(i + j) / 2].f0 s < 0
        · rw [if_pos hc, show wrap64 ((((i + j) / 2 : Nat) : Int) + 1) = (((i + j) / 2 + 1 : Nat) : Int) by unfold wrap64; omega]
          refine ih _ _ ?_ h2 h3 (by omega)
          apply Nat.lt_of_not_le
          intro hge
          have := tw_ge hd (List.getElem?_eq_getElem hm) (by omega)
          rw [decide_eq_false_iff_not] at this
          exact this hc
        · rw [if_neg hc]
          refine ih _ _ h1 ?_ (by omega) (by omega)
          apply Nat.le_of_not_lt
          intro hlt
          have := tw_lt (fun y : S32 => decide (sl y.f0 s)) l _ _ (List.getElem?_eq_getElem hm) (by omega)
          exact hc (of_decide_eq_true this)
      · obtain rfl : i = n := by omega
        rw [if_neg (by omega)]
        by_cases hi : i < l.length
        · rw [if_pos (by omega), if_pos (by omega), Int.toNat_natCast, List.getElem?_eq_getElem hi, Option.bind_some, cmp_tells, Option.bind_some]
          simp only
          congr 2
          rw [Bool.eq_iff_iff, beq_iff_eq, decide_eq_true_eq]
          exact sc_eq
        · rw [if_neg (by omega), List.getElem?_eq_none (by omega)]
  unfold slices_BinarySearchFunc_api_Row_api_Row_string.f
  exact key k 0 l.length (Nat.zero_le _) hle (Nat.le_refl _) (by omega)
/-- Is there a row of a name? -/
inductive Find (s : ByteArray) (l : List S32) : Prop where
  | yes (x : S32) (h : l[at_ s l]? = some x) (e : x.f0 = s) : Find s l
  | no (h : ∀ x ∈ l, x.f0 ≠ s) : Find s l
theorem find_is {l : List S32} (h : Rt l) (s : ByteArray) : Find s l := by
  cases hx : l[at_ s l]? with
  | none =>
    refine .no fun x hx2 e => ?_
    have hn : at_ s l = l.length := by have := atle s l; have := List.getElem?_eq_none_iff.1 hx; omega
    obtain ⟨i, hi⟩ := List.getElem?_of_mem hx2
    have hil := (List.getElem?_eq_some_iff.1 hi).1
    have := tw_lt (fun y : S32 => decide (sl y.f0 s)) l i x hi (by unfold at_ at hn; omega)
    rw [decide_eq_true_eq, e] at this
    exact sl_irr _ this
  | some x =>
    by_cases e : x.f0 = s
    · exact .yes x hx e
    · refine .no fun y hy e2 => ?_
      obtain ⟨i, hi⟩ := List.getElem?_of_mem hy
      rcases Nat.lt_trichotomy i (at_ s l) with h1 | h1 | h1
      · have := tw_lt (fun y : S32 => decide (sl y.f0 s)) l i y hi h1
        rw [decide_eq_true_eq, e2] at this
        exact sl_irr _ this
      · rw [h1, hx] at hi
        obtain rfl := Option.some.inj hi
        exact e e2
      · have h2 := tw_at (fun y : S32 => decide (sl y.f0 s)) l x hx
        rw [decide_eq_false_iff_not] at h2
        have h3 := pw_get h.2.2 h1 hx hi
        rw [e2] at h3
        exact h2 h3
theorem at_tells (k : Nat) (s : ByteArray) (l : List S32) (h : Rt l) (hk2 : l.length < k) : stock_at.f k l s = some (((at_ s l : Nat) : Int), match l[at_ s l]? with | some x => decide (x.f0 = s) | none => false) := by
  unfold stock_at.f
  rw [bsearch_tells k s l h hk2]
  rfl
theorem at_yes {k : Nat} {s : ByteArray} {l : List S32} {x : S32} (h : Rt l) (hk2 : l.length < k) (hx : l[at_ s l]? = some x) (e : x.f0 = s) : stock_at.f k l s = some (((at_ s l : Nat) : Int), true) := by
  rw [at_tells k s l h hk2, hx]
  simp [e]
theorem at_no {k : Nat} {s : ByteArray} {l : List S32} (h : Rt l) (hk2 : l.length < k) (hn : ∀ x ∈ l, x.f0 ≠ s) : stock_at.f k l s = some (((at_ s l : Nat) : Int), false) := by
  rw [at_tells k s l h hk2]
  cases hx : l[at_ s l]? with
  | none => rfl
  | some x => simp [hn x (List.mem_of_getElem? hx)]
theorem clone_tells (l : List S32) (h : l.length ≤ 1000) : slices_Clone_api_Row_api_Row.f l = some l := by
  unfold slices_Clone_api_Row_api_Row.f
  rw [if_pos (by omega)]
abbrev E0 : ByteArray := ⟨#[]⟩
theorem get_yes {k : Nat} {s : ByteArray} {l : List S32} {x : S32} (hk : 20 ≤ k) (h : Rt l) (hx : l[at_ s l]? = some x) (e : x.f0 = s) : stock_Get.f k l s = some (x.f0, x.f1, x.f2, x.f3, x.f4, x.f5, 0) := by
  have hl := h.1
  obtain ⟨b, h1, h2⟩ := right_tells k hk l (by omega)
  obtain rfl : b = true := h2.2 h
  unfold stock_Get.f
  rw [h1, Option.bind_some, if_pos rfl, at_yes h (by omega) hx e, Option.bind_some]
  simp only [if_true]
  rw [if_pos (by omega), Int.toNat_natCast, hx]
  rfl
theorem get_no {k : Nat} {s : ByteArray} {l : List S32} (hk : 20 ≤ k) (h : Rt l) (hn : ∀ x ∈ l, x.f0 ≠ s) : stock_Get.f k l s = some (E0, 0, 0, 0, 0, 0, 8) := by
  have hl := h.1
  obtain ⟨b, h1, h2⟩ := right_tells k hk l (by omega)
  obtain rfl : b = true := h2.2 h
  unfold stock_Get.f
  rw [h1, Option.bind_some, if_pos rfl, at_no h (by omega) hn]
  rfl
theorem get_bad {k : Nat} {s : ByteArray} {l : List S32} (hk : 20 ≤ k) (hl : l.length ≤ 18) (h : ¬ Rt l) : stock_Get.f k l s = some (E0, 0, 0, 0, 0, 0, 1) := by
  obtain ⟨b, h1, h2⟩ := right_tells k hk l hl
  have : b = false := by cases b with | false => rfl | true => exact absurd (h2.1 rfl) h
  subst this
  unfold stock_Get.f
  rw [h1]
  rfl
def mv (kind n : Int) (x : S32) : S32 := if kind = 1 then ⟨x.f0, x.f1, x.f2 - n, x.f3 + n, x.f4, x.f5⟩ else if kind = 2 then ⟨x.f0, x.f1, x.f2 + n, x.f3 - n, x.f4, x.f5⟩ else if kind = 3 then ⟨x.f0, x.f1, x.f2, x.f3 - n, x.f4 + n, x.f5⟩ else ⟨x.f0, x.f1, x.f2 - n, x.f3, x.f4, x.f5 + n⟩
def there (kind : Int) (x : S32) : Int := if kind = 2 ∨ kind = 3 then x.f3 else x.f2
theorem hold_bad {k : Nat} {s : ByteArray} {l : List S32} {n : Int} (hk : 20 ≤ k) (hl : l.length ≤ 18) (h : ¬ Rt l ∨ ¬ (1 ≤ n ∧ n ≤ 1073741824)) : stock_Hold.f k l s n = some ([], 1) := by
  obtain ⟨b, h1, h2⟩ := right_tells k hk l hl
  unfold stock_Hold.f stock_move.f
  rw [h1, Option.bind_some]
  by_cases hr : Rt l
  · obtain rfl : b = true := h2.2 hr
    rw [if_pos rfl, units_tells, Option.bind_some, if_neg (by rcases h with h | h; exact absurd hr h; simpa using h)]
    rfl
  · rw [if_neg (fun e => hr (h2.1 e))]
    rfl
theorem hold_no {k : Nat} {s : ByteArray} {l : List S32} {n : Int} (hk : 20 ≤ k) (h : Rt l) (hu : 1 ≤ n ∧ n ≤ 1073741824) (hn : ∀ x ∈ l, x.f0 ≠ s) : stock_Hold.f k l s n = some ([], 8) := by
  have hl := h.1
  obtain ⟨b, h1, h2⟩ := right_tells k hk l (by omega)
  obtain rfl : b = true := h2.2 h
  unfold stock_Hold.f stock_move.f
  rw [h1, Option.bind_some, if_pos rfl, units_tells, Option.bind_some, if_pos (decide_eq_true hu), at_no h (by omega) hn]
  rfl
theorem hold_yes {k : Nat} {s : ByteArray} {l : List S32} {n : Int} {x : S32} (hk : 20 ≤ k) (h : Rt l) (hu : 1 ≤ n ∧ n ≤ 1073741824) (hx : l[at_ s l]? = some x) (e : x.f0 = s) : stock_Hold.f k l s n = some (if x.f2 < n then ([], 11) else (l.set (at_ s l) (mv 1 n x), 0)) := by
  have hl := h.1
  obtain ⟨b, h1, h2⟩ := right_tells k hk l (by omega)
  obtain rfl : b = true := h2.2 h
  unfold stock_Hold.f stock_move.f
  rw [h1, Option.bind_some, if_pos rfl, units_tells, Option.bind_some, if_pos (decide_eq_true hu), at_yes h (by omega) hx e, Option.bind_some]
  simp only [if_true]
  rw [clone_tells l (by omega), Option.bind_some, if_pos (by omega), Int.toNat_natCast, hx, Option.bind_some, stock_Hold_1.f, Option.bind_some]
  by_cases hc : x.f2 < n
  · rw [if_pos hc, if_pos hc]
    rfl
  · obtain ⟨_, g1, g2, g3, g4, g5, _⟩ := h.2.1 x (List.mem_of_getElem? hx)
    unfold inU at *
    rw [if_neg hc, if_neg hc, List.set_set]
    simp only [Option.bind_some]
    rw [w64n (n := x.f2 - n) (by omega) (by omega), w64n (n := x.f3 + n) (by omega) (by omega)]
    rfl
theorem release_bad {k : Nat} {s : ByteArray} {l : List S32} {n : Int} (hk : 20 ≤ k) (hl : l.length ≤ 18) (h : ¬ Rt l ∨ ¬ (1 ≤ n ∧ n ≤ 1073741824)) : stock_Release.f k l s n = some ([], 1) := by
  obtain ⟨b, h1, h2⟩ := right_tells k hk l hl
  unfold stock_Release.f stock_move_s51.f
  rw [h1, Option.bind_some]
  by_cases hr : Rt l
  · obtain rfl : b = true := h2.2 hr
    rw [if_pos rfl, units_tells, Option.bind_some, if_neg (by rcases h with h | h; exact absurd hr h; simpa using h)]
    rfl
  · rw [if_neg (fun e => hr (h2.1 e))]
    rfl
theorem release_no {k : Nat} {s : ByteArray} {l : List S32} {n : Int} (hk : 20 ≤ k) (h : Rt l) (hu : 1 ≤ n ∧ n ≤ 1073741824) (hn : ∀ x ∈ l, x.f0 ≠ s) : stock_Release.f k l s n = some ([], 8) := by
  have hl := h.1
  obtain ⟨b, h1, h2⟩ := right_tells k hk l (by omega)
  obtain rfl : b = true := h2.2 h
  unfold stock_Release.f stock_move_s51.f
  rw [h1, Option.bind_some, if_pos rfl, units_tells, Option.bind_some, if_pos (decide_eq_true hu), at_no h (by omega) hn]
  rfl
theorem release_yes {k : Nat} {s : ByteArray} {l : List S32} {n : Int} {x : S32} (hk : 20 ≤ k) (h : Rt l) (hu : 1 ≤ n ∧ n ≤ 1073741824) (hx : l[at_ s l]? = some x) (e : x.f0 = s) : stock_Release.f k l s n = some (if x.f3 < n then ([], 11) else (l.set (at_ s l) (mv 2 n x), 0)) := by
  have hl := h.1
  obtain ⟨b, h1, h2⟩ := right_tells k hk l (by omega)
  obtain rfl : b = true := h2.2 h
  unfold stock_Release.f stock_move_s51.f
  rw [h1, Option.bind_some, if_pos rfl, units_tells, Option.bind_some, if_pos (decide_eq_true hu), at_yes h (by omega) hx e, Option.bind_some]
  simp only [if_true]
  rw [clone_tells l (by omega), Option.bind_some, if_pos (by omega), Int.toNat_natCast, hx, Option.bind_some, stock_Release_1.f, Option.bind_some]
  by_cases hc : x.f3 < n
  · rw [if_pos hc, if_pos hc]
    rfl
  · obtain ⟨_, g1, g2, g3, g4, g5, _⟩ := h.2.1 x (List.mem_of_getElem? hx)
    unfold inU at *
    rw [if_neg hc, if_neg hc, List.set_set]
    simp only [Option.bind_some]
    rw [w64n (n := x.f3 - n) (by omega) (by omega), w64n (n := x.f2 + n) (by omega) (by omega)]
    rfl
theorem ship_bad {k : Nat} {s : ByteArray} {l : List S32} {n : Int} (hk : 20 ≤ k) (hl : l.length ≤ 18) (h : ¬ Rt l ∨ ¬ (1 ≤ n ∧ n ≤ 1073741824)) : stock_Ship.f k l s n = some ([], 1) := by
  obtain ⟨b, h1, h2⟩ := right_tells k hk l hl
  unfold stock_Ship.f stock_move_s54.f
  rw [h1, Option.bind_some]
  by_cases hr : Rt l
  · obtain rfl : b = true := h2.2 hr
    rw [if_pos rfl, units_tells, Option.bind_some, if_neg (by rcases h with h | h; exact absurd hr h; simpa using h)]
    rfl
  · rw [if_neg (fun e => hr (h2.1 e))]
    rfl
theorem ship_no {k : Nat} {s : ByteArray} {l : List S32} {n : Int} (hk : 20 ≤ k) (h : Rt l) (hu : 1 ≤ n ∧ n ≤ 1073741824) (hn : ∀ x ∈ l, x.f0 ≠ s) : stock_Ship.f k l s n = some ([], 8) := by
  have hl := h.1
  obtain ⟨b, h1, h2⟩ := right_tells k hk l (by omega)
  obtain rfl : b = true := h2.2 h
  unfold stock_Ship.f stock_move_s54.f
  rw [h1, Option.bind_some, if_pos rfl, units_tells, Option.bind_some, if_pos (decide_eq_true hu), at_no h (by omega) hn]
  rfl
theorem ship_yes {k : Nat} {s : ByteArray} {l : List S32} {n : Int} {x : S32} (hk : 20 ≤ k) (h : Rt l) (hu : 1 ≤ n ∧ n ≤ 1073741824) (hx : l[at_ s l]? = some x) (e : x.f0 = s) : stock_Ship.f k l s n = some (if x.f3 < n then ([], 11) else (l.set (at_ s l) (mv 3 n x), 0)) := by
  have hl := h.1
  obtain ⟨b, h1, h2⟩ := right_tells k hk l (by omega)
  obtain rfl : b = true := h2.2 h
  unfold stock_Ship.f stock_move_s54.f
  rw [h1, Option.bind_some, if_pos rfl, units_tells, Option.bind_some, if_pos (decide_eq_true hu), at_yes h (by omega) hx e, Option.bind_some]
  simp only [if_true]
  rw [clone_tells l (by omega), Option.bind_some, if_pos (by omega), Int.toNat_natCast, hx, Option.bind_some, stock_Ship_1.f, Option.bind_some]
  by_cases hc : x.f3 < n
  · rw [if_pos hc, if_pos hc]
    rfl
  · obtain ⟨_, g1, g2, g3, g4, g5, _⟩ := h.2.1 x (List.mem_of_getElem? hx)
    unfold inU at *
    rw [if_neg hc, if_neg hc, List.set_set]
    simp only [Option.bind_some]
    rw [w64n (n := x.f3 - n) (by omega) (by omega), w64n (n := x.f4 + n) (by omega) (by omega)]
    rfl
theorem lose_bad {k : Nat} {s : ByteArray} {l : List S32} {n : Int} (hk : 20 ≤ k) (hl : l.length ≤ 18) (h : ¬ Rt l ∨ ¬ (1 ≤ n ∧ n ≤ 1073741824)) : stock_Lose.f k l s n = some ([], 1) := by
  obtain ⟨b, h1, h2⟩ := right_tells k hk l hl
  unfold stock_Lose.f stock_move_s57.f
  rw [h1, Option.bind_some]
  by_cases hr : Rt l
  · obtain rfl : b = true := h2.2 hr
    rw [if_pos rfl, units_tells, Option.bind_some, if_neg (by rcases h with h | h; exact absurd hr h; simpa using h)]
    rfl
  · rw [if_neg (fun e => hr (h2.1 e))]
    rfl
theorem lose_no {k : Nat} {s : ByteArray} {l : List S32} {n : Int} (hk : 20 ≤ k) (h : Rt l) (hu : 1 ≤ n ∧ n ≤ 1073741824) (hn : ∀ x ∈ l, x.f0 ≠ s) : stock_Lose.f k l s n = some ([], 8) := by
  have hl := h.1
  obtain ⟨b, h1, h2⟩ := right_tells k hk l (by omega)
  obtain rfl : b = true := h2.2 h
  unfold stock_Lose.f stock_move_s57.f
  rw [h1, Option.bind_some, if_pos rfl, units_tells, Option.bind_some, if_pos (decide_eq_true hu), at_no h (by omega) hn]
  rfl
theorem lose_yes {k : Nat} {s : ByteArray} {l : List S32} {n : Int} {x : S32} (hk : 20 ≤ k) (h : Rt l) (hu : 1 ≤ n ∧ n ≤ 1073741824) (hx : l[at_ s l]? = some x) (e : x.f0 = s) : stock_Lose.f k l s n = some (if x.f2 < n then ([], 11) else (l.set (at_ s l) (mv 4 n x), 0)) := by
  have hl := h.1
  obtain ⟨b, h1, h2⟩ := right_tells k hk l (by omega)
  obtain rfl : b = true := h2.2 h
  unfold stock_Lose.f stock_move_s57.f
  rw [h1, Option.bind_some, if_pos rfl, units_tells, Option.bind_some, if_pos (decide_eq_true hu), at_yes h (by omega) hx e, Option.bind_some]
  simp only [if_true]
  rw [clone_tells l (by omega), Option.bind_some, if_pos (by omega), Int.toNat_natCast, hx, Option.bind_some, stock_Lose_1.f, Option.bind_some]
  by_cases hc : x.f2 < n
  · rw [if_pos hc, if_pos hc]
    rfl
  · obtain ⟨_, g1, g2, g3, g4, g5, _⟩ := h.2.1 x (List.mem_of_getElem? hx)
    unfold inU at *
    rw [if_neg hc, if_neg hc, List.set_set]
    simp only [Option.bind_some]
    rw [w64n (n := x.f2 - n) (by omega) (by omega), w64n (n := x.f5 + n) (by omega) (by omega)]
    rfl
theorem does_bad {k : Nat} {s : ByteArray} {l : List S32} {n q : Int} (hk : 20 ≤ k) (hq : 1 ≤ q ∧ q ≤ 4) (hl : l.length ≤ 18) (h : ¬ Rt l ∨ ¬ (1 ≤ n ∧ n ≤ 1073741824)) : tarrylaw08_does.f k l s n q = some ([], 1) := by
  unfold tarrylaw08_does.f
  rw [hold_bad hk hl h, release_bad hk hl h, ship_bad hk hl h, lose_bad hk hl h]
  simp only [Option.bind_some]
  (repeat' split) <;> rfl
theorem does_no {k : Nat} {s : ByteArray} {l : List S32} {n q : Int} (hk : 20 ≤ k) (h : Rt l) (hu : 1 ≤ n ∧ n ≤ 1073741824) (hn : ∀ x ∈ l, x.f0 ≠ s) : tarrylaw08_does.f k l s n q = some ([], 8) := by
  unfold tarrylaw08_does.f
  rw [hold_no hk h hu hn, release_no hk h hu hn, ship_no hk h hu hn, lose_no hk h hu hn]
  simp only [Option.bind_some]
  (repeat' split) <;> rfl
theorem does_yes {k : Nat} {s : ByteArray} {l : List S32} {n q : Int} {x : S32} (hk : 20 ≤ k) (hq : 1 ≤ q ∧ q ≤ 4) (h : Rt l) (hu : 1 ≤ n ∧ n ≤ 1073741824) (hx : l[at_ s l]? = some x) (e : x.f0 = s) : tarrylaw08_does.f k l s n q = some (if there q x < n then ([], 11) else (l.set (at_ s l) (mv q n x), 0)) := by
  unfold tarrylaw08_does.f
  rw [hold_yes hk h hu hx e, release_yes hk h hu hx e, ship_yes hk h hu hx e, lose_yes hk h hu hx e]
  simp only [Option.bind_some]
  unfold there
  by_cases q1 : q = 1
  · subst q1; simp
  · by_cases q2 : q = 2
    · subst q2; simp
    · by_cases q3 : q = 3
      · subst q3; simp
      · obtain rfl : q = 4 := by omega
        simp [mv]
def got (n : Int) (x : S32) : S32 := ⟨x.f0, x.f1 + n, x.f2 + n, x.f3, x.f4, x.f5⟩
def put_ (x : S32) (l : List S32) : List S32 := l.take (at_ x.f0 l) ++ [x] ++ l.drop (at_ x.f0 l)
theorem set_mid {α : Type} (l : List α) (i : Nat) (a b : α) (hi : i ≤ l.length) : (l.take i ++ [a] ++ l.drop i).set i b = l.take i ++ [b] ++ l.drop i ∧ (l.take i ++ [a] ++ l.drop i)[i]? = some a := by
  have h : (l.take i).length = i := by rw [List.length_take]; omega
  constructor
  · rw [List.append_assoc, List.set_append_right _ _ (by omega), h, Nat.sub_self, List.append_assoc]
    rfl
  · rw [List.append_assoc, List.getElem?_append_right (by omega), h, Nat.sub_self]
    rfl
theorem receive_bad {k : Nat} {s : ByteArray} {l : List S32} {n : Int} (hk : 20 ≤ k) (hl : l.length ≤ 18) (h : ¬ Rt l ∨ ¬ (1 ≤ n ∧ n ≤ 1073741824) ∨ nm s = false) : stock_Receive.f k l s n = some ([], 1) := by
  obtain ⟨b, h1, h2⟩ := right_tells k hk l hl
  unfold stock_Receive.f
  rw [h1, Option.bind_some]
  by_cases hr : Rt l
  · obtain rfl : b = true := h2.2 hr
    rw [if_pos rfl, units_tells, Option.bind_some]
    by_cases hu : 1 ≤ n ∧ n ≤ 1073741824
    · rw [if_pos (decide_eq_true hu), sname_tells k hk, Option.bind_some, if_neg]
      rcases h with h | h | h
      · exact absurd hr h
      · exact absurd hu h
      · simp [h]
    · rw [if_neg (by simpa using hu)]
  · rw [if_neg (fun e => hr (h2.1 e))]
theorem receive_yes {k : Nat} {s : ByteArray} {l : List S32} {n : Int} {x : S32} (hk : 20 ≤ k) (h : Rt l) (hu : 1 ≤ n ∧ n ≤ 1073741824) (hx : l[at_ s l]? = some x) (e : x.f0 = s) : stock_Receive.f k l s n = some (if x.f1 + n > 1073741824 then ([], 2) else (l.set (at_ s l) (got n x), 0)) := by
  have hl := h.1
  obtain ⟨b, h1, h2⟩ := right_tells k hk l (by omega)
  obtain rfl : b = true := h2.2 h
  obtain ⟨g0, g1, g2, g3, g4, g5, g6⟩ := h.2.1 x (List.mem_of_getElem? hx)
  unfold stock_Receive.f
  rw [h1, Option.bind_some, if_pos rfl, units_tells, Option.bind_some, if_pos (decide_eq_true hu), sname_tells k hk, Option.bind_some, if_pos (by rw [← e]; exact g0), at_yes h (by omega) hx e, Option.bind_some]
  simp only
  rw [clone_tells l (by omega), Option.bind_some]
  simp only [if_true]
  have hil := (List.getElem?_eq_some_iff.1 hx).1
  rw [if_pos (by omega), Int.toNat_natCast, hx, Option.bind_some, w64n (n := 1073741824 - n) (by omega) (by omega)]
  by_cases hc : x.f1 + n > 1073741824
  · rw [if_pos (by omega), if_pos hc]
  · unfold inU at *
    rw [if_neg (by omega), if_neg hc]
    simp only [Option.bind_some, List.getElem?_set_self hil, List.set_set]
    rw [w64n (n := x.f1 + n) (by omega) (by omega), w64n (n := x.f2 + n) (by omega) (by omega)]
    rfl
theorem receive_new {k : Nat} {s : ByteArray} {l : List S32} {n : Int} (hk : 20 ≤ k) (h : Rt l) (hu : 1 ≤ n ∧ n ≤ 1073741824) (hs : nm s = true) (hn : ∀ x ∈ l, x.f0 ≠ s) : stock_Receive.f k l s n = some (if l.length = 8 then ([], 7) else (put_ ⟨s, n, n, 0, 0, 0⟩ l, 0)) := by
  have hl := h.1
  have hle := atle s l
  obtain ⟨b, h1, h2⟩ := right_tells k hk l (by omega)
  obtain rfl : b = true := h2.2 h
  unfold stock_Receive.f
  rw [h1, Option.bind_some, if_pos rfl, units_tells, Option.bind_some, if_pos (decide_eq_true hu), sname_tells k hk, Option.bind_some, if_pos hs, at_no h (by omega) hn, Option.bind_some]
  simp only
  rw [clone_tells l (by omega), Option.bind_some, if_neg (by simp)]
  by_cases h8 : l.length = 8
  · rw [if_pos (by omega), if_pos h8]
  · rw [if_neg (by omega), if_neg h8]
    unfold slices_Insert_api_Row_api_Row.f
    rw [if_pos ⟨by omega, by omega, by simp; omega⟩, Option.bind_some, if_pos (by omega), Int.toNat_natCast, (set_mid l (at_ s l) _ ⟨s, 0, 0, 0, 0, 0⟩ hle).2, Option.bind_some, w64n (n := 1073741824 - n) (by omega) (by omega), if_neg (by simp; omega)]
    have hil : at_ s l < (l.take (at_ s l) ++ [(⟨s, 0, 0, 0, 0, 0⟩ : S32)] ++ l.drop (at_ s l)).length := (List.getElem?_eq_some_iff.1 (set_mid l (at_ s l) _ ⟨s, 0, 0, 0, 0, 0⟩ hle).2).1
    simp only [fun a b => (set_mid l (at_ s l) a b hle).1, fun a => (set_mid l (at_ s l) a a hle).2, Option.bind_some]
    rw [w64n (n := 0 + n) (by omega) (by omega), Int.zero_add]
    rfl
theorem rin_tells (n : Int) : tarryref08_in.f n = some (decide (inU n)) := by
  unfold tarryref08_in.f
  split
  · congr 1; rw [decide_eq_decide]; unfold inU; omega
  · congr 1; symm; apply decide_eq_false; unfold inU; omega
theorem runits_tells (n : Int) : tarryref08_units.f n = some (decide (1 ≤ n ∧ n ≤ 1073741824)) := by
  unfold tarryref08_units.f
  split
  · congr 1; rw [decide_eq_decide]; omega
  · congr 1; symm; apply decide_eq_false; omega
def shorts (l : List S32) : Prop := ∀ x ∈ l, x.f0.size ≤ 100
theorem mayR_in (x : S32) (hn : nm x.f0 = true) {α : Type} (p : α) (q : α) : (if inU x.f1 then (if inU x.f2 then (if inU x.f3 then (if inU x.f4 then (if inU x.f5 then (if wrap64 ((wrap64 ((wrap64 (x.f1 - x.f2)) - x.f3)) - x.f4) = x.f5 then p else q) else q) else q) else q) else q) else q) = if mayR x then p else q := by
  by_cases ho : inU x.f1 ∧ inU x.f2 ∧ inU x.f3 ∧ inU x.f4 ∧ inU x.f5
  · obtain ⟨h1, h2, h3, h4, h5⟩ := ho
    rw [if_pos h1, if_pos h2, if_pos h3, if_pos h4, if_pos h5]
    have hw : wrap64 ((wrap64 ((wrap64 (x.f1 - x.f2)) - x.f3)) - x.f4) = x.f1 - x.f2 - x.f3 - x.f4 := by
      unfold inU at *
      rw [w64n (n := x.f1 - x.f2) (by omega) (by omega), w64n (n := x.f1 - x.f2 - x.f3) (by omega) (by omega), w64n (by omega) (by omega)]
    rw [hw]
    by_cases e : x.f1 = x.f2 + x.f3 + x.f4 + x.f5
    · rw [if_pos (by omega), if_pos ⟨hn, h1, h2, h3, h4, h5, e⟩]
    · rw [if_neg (by omega), if_neg (fun h => e h.2.2.2.2.2.2)]
  · have : ¬ mayR x := fun h => ho ⟨h.2.1, h.2.2.1, h.2.2.2.1, h.2.2.2.2.1, h.2.2.2.2.2.1⟩
    rw [if_neg this]
    (repeat' split) <;> first | rfl | (exfalso; simp_all)
theorem rright_tells (k : Nat) (hk : 200 ≤ k) (l : List S32) (hl : l.length ≤ 18) (hs : shorts l) : ∃ b, tarryref08_Right.f k l = some b ∧ (b = true ↔ Rt l) := by
  have key : ∀ (xs : List S32) (i : Nat), l.drop i = xs → ∃ b, tarryref08_Right.r1 k l xs i = some b ∧ (b = true ↔ l.length ≤ 8 ∧ (∀ x ∈ xs, mayR x) ∧ ∀ (j : Nat) (x y : S32), i ≤ j + 1 → l[j]? = some x → l[j + 1]? = some y → sl x.f0 y.f0) := by
    intro xs
    induction xs with
    | nil =>
      intro i hi
      have hli := drop_nil_is hi
      rw [tarryref08_Right.r1]
      refine ⟨_, rfl, ?_⟩
      rw [decide_eq_true_eq]
      exact ⟨fun h => ⟨by omega, by simp, fun j x y hj hx hy => by have := (List.getElem?_eq_some_iff.1 hy).1; omega⟩, fun h => by have := h.1; omega⟩
    | cons x xs ih =>
      intro i hi
      obtain ⟨hli, hx, hd⟩ := drop_cons_is hi
      have hxs := hs x (List.mem_of_getElem? hx)
      obtain ⟨b, h1, h2⟩ := ih (i + 1) hd
      rw [tarryref08_Right.r1, rname_tells k _ (by omega) (by omega), Option.bind_some]
      have no : (¬ mayR x) → ∃ b, (some false : Option Bool) = some b ∧ (b = true ↔ l.length ≤ 8 ∧ (∀ y ∈ x :: xs, mayR y) ∧ ∀ (j : Nat) (x y : S32), i ≤ j + 1 → l[j]? = some x → l[j + 1]? = some y → sl x.f0 y.f0) := fun hm => ⟨false, rfl, ⟨(fun h => by cases h), fun h => absurd (h.2.1 x (by simp)) hm⟩⟩
      cases hn : nm x.f0 with
      | false =>
        rw [if_neg (by simp)]
        exact no (fun h => by have := h.1; rw [hn] at this; cases this)
      | true =>
        rw [if_pos rfl]
        simp only [rin_tells, Option.bind_some, decide_eq_true_eq]
        rcases Nat.eq_zero_or_pos i with hi0 | hi0
        · subst hi0
          rw [if_neg (by omega), mayR_in x hn]
          by_cases hm : mayR x
          · rw [if_pos hm]
            refine ⟨b, h1, h2.trans ⟨fun h => ⟨h.1, fun y hy => ?_, fun j x y hj hx hy => h.2.2 j x y (by omega) hx hy⟩, fun h => ⟨h.1, fun y hy => h.2.1 y (by simp [hy]), fun j x y _ hx hy => h.2.2 j x y (by omega) hx hy⟩⟩⟩
            rcases List.mem_cons.1 hy with rfl | hy
            · exact hm
            · exact h.2.1 y hy
          · rw [if_neg hm]
            exact no hm
        · have hw : wrap64 ((i : Int) - 1) = ((i - 1 : Nat) : Int) := by unfold wrap64; omega
          have hp : l[i - 1]? = some l[i - 1] := List.getElem?_eq_getElem (by omega)
          have hps := hs l[i - 1] (List.getElem_mem _)
          rw [if_pos (by omega), hw, if_pos (by omega), Int.toNat_natCast, hp, Option.bind_some, rless_tells k _ _ (by omega) (by omega), Option.bind_some]
          by_cases hsl : sl l[i - 1].f0 x.f0
          · rw [if_pos (decide_eq_true hsl), mayR_in x hn]
            by_cases hm : mayR x
            · rw [if_pos hm]
              refine ⟨b, h1, h2.trans ⟨fun h => ⟨h.1, fun y hy => ?_, fun j u v hj hu hv => ?_⟩, fun h => ⟨h.1, fun y hy => h.2.1 y (by simp [hy]), fun j x y _ hx hy => h.2.2 j x y (by omega) hx hy⟩⟩⟩
              · rcases List.mem_cons.1 hy with rfl | hy
                · exact hm
                · exact h.2.1 y hy
              · rcases Nat.lt_or_ge i (j + 1) with h3 | h3
                · exact h.2.2 j u v (by omega) hu hv
                · obtain rfl : i = j + 1 := by omega
                  simp only [Nat.add_sub_cancel] at hsl hp
                  rw [hp] at hu
                  obtain rfl := Option.some.inj hu
                  rw [hx] at hv
                  obtain rfl := Option.some.inj hv
                  exact hsl
            · rw [if_neg hm]
              exact no hm
          · rw [if_neg (by simpa using hsl)]
            refine ⟨false, rfl, ⟨(fun h => by cases h), fun h => absurd (h.2.2 (i - 1) _ x (by omega) hp (by rw [show i - 1 + 1 = i by omega]; exact hx)) hsl⟩⟩
  unfold tarryref08_Right.f
  have := tarryref08_Right.r1_eq k l (by omega) k 0 (by omega) (by omega)
  rw [show ((0 : Nat) : Int) = 0 from rfl, List.drop_zero] at this
  rw [this]
  obtain ⟨b, h1, h2⟩ := key l 0 rfl
  refine ⟨b, h1, h2.trans ⟨fun h => ⟨h.1, h.2.1, pw_of_adj (R := fun x y : S32 => sl x.f0 y.f0) (fun h1 h2 => sl_trans h1 h2) fun i x y hx hy => h.2.2 i x y (by omega) hx hy⟩, fun h => ⟨h.1, h.2.1, fun j x y _ hx hy => pw_get h.2.2 (Nat.lt_succ_self j) hx hy⟩⟩⟩
theorem before {l : List S32} {s : ByteArray} : ∀ y ∈ l.take (at_ s l), sl y.f0 s := by
  intro y hy
  unfold at_ at hy
  rw [take_tw] at hy
  exact of_decide_eq_true (mem_tw (p := fun y : S32 => decide (sl y.f0 s)) hy)
theorem behind {l : List S32} (h : Rt l) {s : ByteArray} : ∀ y ∈ l.drop (at_ s l), ¬ sl y.f0 s := by
  intro y hy
  unfold at_ at hy
  rw [drop_tw] at hy
  have := mem_dw (downs h s) hy
  rwa [decide_eq_false_iff_not] at this
theorem split_at {l : List S32} {i : Nat} {x : S32} (hx : l[i]? = some x) : l = l.take i ++ x :: l.drop (i + 1) := by
  obtain ⟨h1, rfl⟩ := List.getElem?_eq_some_iff.1 hx
  rw [← List.drop_eq_getElem_cons h1, List.take_append_drop]
theorem rget_r (k : Nat) (s : ByteArray) (l : List S32) : ∀ (ys zs : List S32), (∀ y ∈ ys, y.f0 ≠ s) → tarryref08_Get.r1 k s l (ys ++ zs) = tarryref08_Get.r1 k s l zs := by
  intro ys zs
  induction ys with
  | nil => intro _; rfl
  | cons y ys ih =>
    intro h
    rw [List.cons_append, tarryref08_Get.r1, beq_is, if_neg (by simpa using h y (by simp)), ih (fun z hz => h z (by simp [hz]))]
theorem rget_f (k : Nat) (s : ByteArray) (l : List S32) (hl : l.length ≤ 18) (hk : 200 ≤ k) : tarryref08_Get.f k l s = tarryref08_Get.r1 k s l l := by
  have := tarryref08_Get.r1_eq k s l (by omega) k 0 (by omega) (by omega)
  rw [show ((0 : Nat) : Int) = 0 from rfl, List.drop_zero] at this
  unfold tarryref08_Get.f
  exact this
theorem rget_yes {k : Nat} {s : ByteArray} {l : List S32} {x : S32} (hk : 200 ≤ k) (h : Rt l) (hx : l[at_ s l]? = some x) (e : x.f0 = s) : tarryref08_Get.f k l s = some (x.f0, x.f1, x.f2, x.f3, x.f4, x.f5) := by
  rw [rget_f k s l (by have := h.1; omega) hk]
  have e2 := split_at hx
  have := rget_r k s l (l.take (at_ s l)) (x :: l.drop (at_ s l + 1)) (fun y hy e3 => sl_irr s (by have := before y hy; rwa [e3] at this))
  rw [← e2] at this
  rw [this, tarryref08_Get.r1, beq_is, if_pos (by simpa using e)]
theorem rget_no {k : Nat} {s : ByteArray} {l : List S32} (hk : 200 ≤ k) (hl : l.length ≤ 18) (hn : ∀ x ∈ l, x.f0 ≠ s) : tarryref08_Get.f k l s = some (E0, 0, 0, 0, 0, 0) := by
  rw [rget_f k s l hl hk]
  have := rget_r k s l l [] hn
  rw [List.append_nil] at this
  rw [this]
  rfl
theorem rset_f {k : Nat} {l : List S32} {x : S32} (hk : 200 ≤ k) (h : Rt l) (hs : shorts l) : tarryref08_Set.f k l x.f0 x.f1 x.f2 x.f3 x.f4 x.f5 = some (l.take (at_ x.f0 l) ++ [x] ++ (l.drop (at_ x.f0 l)).filter (fun y => decide (y.f0 ≠ x.f0))) := by
  have hl := h.1
  have tr : ∀ (xs ys : List S32), xs.length + ys.length < 1000 → tarryref08_Set.r1 k x.f0 x.f1 x.f2 x.f3 x.f4 x.f5 l xs ys true = some (ys ++ xs.filter (fun y => decide (y.f0 ≠ x.f0))) := by
    intro xs
    induction xs with
    | nil => intro ys _; simp [tarryref08_Set.r1]
    | cons y xs ih =>
      intro ys h
      simp only [List.length_cons] at h
      rw [tarryref08_Set.r1, if_pos rfl, beq_is]
      by_cases e : y.f0 = x.f0
      · rw [if_pos (decide_eq_true e), ih _ (by omega), List.filter_cons, if_neg (by simpa using e)]
      · rw [if_neg (by simpa using e), if_pos (by simp; omega), ih _ (by simp; omega), List.filter_cons, if_pos (by simpa using e)]
        simp
  have fa : ∀ (xs ys : List S32), xs.length + ys.length < 900 → (∀ y ∈ xs, y ∈ l) → tarryref08_Set.r1 k x.f0 x.f1 x.f2 x.f3 x.f4 x.f5 l xs ys false = some (ys ++ (xs.takeWhile (fun y => decide (sl y.f0 x.f0)) ++ [x] ++ (xs.dropWhile (fun y => decide (sl y.f0 x.f0))).filter (fun y => decide (y.f0 ≠ x.f0)))) := by
    intro xs
    induction xs with
    | nil =>
      intro ys h _
      simp only [List.length_nil] at h
      rw [tarryref08_Set.r1, if_neg (by simp), if_pos (by simp; omega)]
      simp
    | cons y xs ih =>
      intro ys h hm
      simp only [List.length_cons] at h
      have hys := hs y (hm y (by simp))
      rw [tarryref08_Set.r1, if_neg (by simp), rless_tells k _ _ (by omega) (by omega), Option.bind_some, beq_is]
      by_cases hlt : sl y.f0 x.f0
      · have hne : y.f0 ≠ x.f0 := fun e => sl_irr x.f0 (by rwa [e] at hlt)
        rw [if_pos (decide_eq_true hlt), if_neg (by simpa using hne), if_pos (by simp; omega), ih _ (by simp; omega) (fun z hz => hm z (by simp [hz])), List.takeWhile_cons, if_pos (decide_eq_true hlt), List.dropWhile_cons, if_pos (decide_eq_true hlt)]
        simp
      · have hlt' : ¬ (decide (sl y.f0 x.f0) = true) := by simpa using hlt
        rw [if_neg hlt', if_pos (by simp; omega), List.takeWhile_cons, if_neg hlt', List.dropWhile_cons, if_neg hlt', List.filter_cons]
        by_cases e : y.f0 = x.f0
        · rw [if_pos (decide_eq_true e), tr _ _ (by simp; omega), if_neg (by simpa using e)]
          simp
        · rw [if_neg (by simpa using e), if_pos (by simp; omega), tr _ _ (by simp; omega), if_pos (by simpa using e)]
          simp
  have := tarryref08_Set.r1_eq k x.f0 x.f1 x.f2 x.f3 x.f4 x.f5 l (by omega) k 0 [] false (by omega) (by omega)
  rw [show ((0 : Nat) : Int) = 0 from rfl, List.drop_zero] at this
  unfold tarryref08_Set.f
  rw [this, fa l [] (by simp; omega) (fun _ h => h), List.nil_append]
  unfold at_
  rw [take_tw, drop_tw]
theorem rset_yes {k : Nat} {l : List S32} {x y : S32} (hk : 200 ≤ k) (h : Rt l) (hs : shorts l) (hy : l[at_ x.f0 l]? = some y) (e : y.f0 = x.f0) : tarryref08_Set.f k l x.f0 x.f1 x.f2 x.f3 x.f4 x.f5 = some (l.set (at_ x.f0 l) x) := by
  rw [rset_f hk h hs]
  have hlt := (List.getElem?_eq_some_iff.1 hy).1
  congr 1
  have hd : (l.drop (at_ x.f0 l)).filter (fun z => decide (z.f0 ≠ x.f0)) = l.drop (at_ x.f0 l + 1) := by
    rw [List.drop_eq_getElem_cons hlt, List.filter_cons]
    have e2 : l[at_ x.f0 l] = y := by rw [List.getElem?_eq_getElem hlt] at hy; exact Option.some.inj hy
    rw [if_neg (by rw [e2]; simpa using e), List.filter_eq_self]
    intro z hz
    obtain ⟨j, hj⟩ := List.getElem?_of_mem hz
    rw [List.getElem?_drop] at hj
    have h3 := pw_get h.2.2 (show at_ x.f0 l < at_ x.f0 l + 1 + j by omega) hy hj
    rw [e] at h3
    simp only [decide_eq_true_eq]
    exact fun e4 => sl_irr x.f0 (by rwa [e4] at h3)
  rw [hd, List.set_eq_take_append_cons_drop, if_pos hlt]
  simp
theorem rset_no {k : Nat} {l : List S32} {x : S32} (hk : 200 ≤ k) (h : Rt l) (hs : shorts l) (hn : ∀ y ∈ l, y.f0 ≠ x.f0) : tarryref08_Set.f k l x.f0 x.f1 x.f2 x.f3 x.f4 x.f5 = some (put_ x l) := by
  rw [rset_f hk h hs]
  unfold put_
  rw [List.filter_eq_self.2]
  intro y hy
  simpa using hn y (List.mem_of_mem_drop hy)
theorem cut_tells (s : ByteArray) : 0 ≤ mn (s.size : Int) 18 ∧ mn (s.size : Int) 18 ≤ (s.size : Int) ∧ (s.extract 0 ((mn (s.size : Int) 18).toNat)).size ≤ 18 := by
  have e : mn (s.size : Int) 18 = ((min s.size 18 : Nat) : Int) := by unfold mn; split <;> omega
  rw [e]
  refine ⟨by omega, by omega, ?_⟩
  rw [Int.toNat_natCast, ByteArray.size_extract]
  omega
theorem few_tells (k : Nat) (hk : 200 ≤ k) (l : List S32) : ∃ r, tarrylaw08_few.f k l = some r ∧ r.length ≤ 10 ∧ shorts r := by
  have e : mn (l.length : Int) 10 = ((min l.length 10 : Nat) : Int) := by unfold mn; split <;> omega
  have hlen : ((l.take (min l.length 10)).drop 0).length ≤ 10 := by rw [List.drop_zero, List.length_take]; omega
  have key : ∀ (xs ys : List S32), xs.length + ys.length ≤ 10 → shorts ys → ∃ r, tarrylaw08_few.r1 k l xs ys = some r ∧ r.length ≤ 10 ∧ shorts r := by
    intro xs
    induction xs with
    | nil => intro ys h hs; exact ⟨ys, rfl, by simpa using h, hs⟩
    | cons x xs ih =>
      intro ys h hs
      simp only [List.length_cons] at h
      obtain ⟨c1, c2, c3⟩ := cut_tells x.f0
      rw [tarrylaw08_few.r1, if_pos c1, if_pos c2, if_pos (by simp; omega)]
      refine ih _ (by simp; omega) fun y hy => ?_
      rcases List.mem_append.1 hy with hy | hy
      · exact hs y hy
      · obtain rfl := List.mem_singleton.1 hy
        exact Nat.le_trans c3 (by decide)
  unfold tarrylaw08_few.f
  rw [if_pos (by omega), if_pos (by omega)]
  have h1 := tarrylaw08_few.r1_eq k l (by rw [e, Int.toNat_natCast]; omega) k 0 [] (by rw [e, Int.toNat_natCast]; omega) (by omega)
  rw [show ((0 : Nat) : Int) = 0 from rfl, List.drop_zero] at h1
  rw [h1]
  refine key _ [] ?_ (fun y hy => by cases hy)
  rw [e, Int.toNat_natCast]
  simp only [List.length_nil]
  omega
theorem alive_tells : tarrylaw08_alive.f 200 = some true := by decide +kernel
theorem eq_of (a b : S32) (h0 : a.f0 = b.f0) (h1 : a.f1 = b.f1) (h2 : a.f2 = b.f2) (h3 : a.f3 = b.f3) (h4 : a.f4 = b.f4) (h5 : a.f5 = b.f5) : a = b := by cases a; cases b; simp_all
instance : DecidableEq S32 := fun a b => if h : a.f0 = b.f0 ∧ a.f1 = b.f1 ∧ a.f2 = b.f2 ∧ a.f3 = b.f3 ∧ a.f4 = b.f4 ∧ a.f5 = b.f5 then isTrue (eq_of a b h.1 h.2.1 h.2.2.1 h.2.2.2.1 h.2.2.2.2.1 h.2.2.2.2.2) else isFalse (fun e => h (by rw [e]; exact ⟨rfl, rfl, rfl, rfl, rfl, rfl⟩))
theorem same_self (k : Nat) (a : List S32) (hk : a.length < k) (hs : a.length < 1000000) : tarryref08_Same.f k a a = some true := by
  unfold tarryref08_Same.f
  rw [if_pos rfl]
  have key : ∀ (xs : List S32) (i : Nat), a.drop i = xs → tarryref08_Same.r1 k a a xs i = some true := by
    intro xs
    induction xs with
    | nil => intro i _; rfl
    | cons x xs ih =>
      intro i hi
      obtain ⟨_, hx, hd⟩ := drop_cons_is hi
      rw [tarryref08_Same.r1, Int.toNat_natCast, hx, Option.bind_some, if_pos (by simp [beq_is]), ih (i + 1) hd]
  have := tarryref08_Same.r1_eq k a a (by omega) k 0 (by omega) (by omega)
  rw [show ((0 : Nat) : Int) = 0 from rfl, List.drop_zero] at this
  rw [this, key a 0 rfl]
theorem E0_ne {x : S32} (h : mayR x) : (x.f0 == E0) = false := by
  rw [nil_is]
  have := h.1
  unfold nm at this
  simp only [Bool.and_eq_true, decide_eq_true_eq] at this
  simpa using this.1
theorem rmove_tells {k : Nat} {s : ByteArray} {l : List S32} {n q : Int} (hk : 200 ≤ k) (hq : 1 ≤ q ∧ q ≤ 4) (hl : l.length ≤ 18) (hs : shorts l) : ∃ p, tarryref08_Move.f k l s n q = some p ∧ tarrylaw08_does.f k l s n q = some p ∧ p.1.length ≤ 18 := by
  obtain ⟨b, h1, h2⟩ := rright_tells k hk l hl hs
  unfold tarryref08_Move.f
  rw [h1, Option.bind_some]
  by_cases hr : Rt l
  case neg =>
    rw [if_neg (fun e => hr (h2.1 e)), does_bad (by omega) hq hl (.inl hr)]
    exact ⟨_, rfl, rfl, by simp⟩
  obtain rfl : b = true := h2.2 hr
  rw [if_pos rfl, runits_tells, Option.bind_some]
  by_cases hu : 1 ≤ n ∧ n ≤ 1073741824
  case neg =>
    rw [if_neg (by simpa using hu), does_bad (by omega) hq hl (.inr hu)]
    exact ⟨_, rfl, rfl, by simp⟩
  rw [if_pos (decide_eq_true hu)]
  rcases find_is hr s with ⟨x, hx, e⟩ | hn
  · rw [rget_yes hk hr hx e, does_yes (by omega) hq hr hu hx e]
    have hm := hr.2.1 x (List.mem_of_getElem? hx)
    simp only [Option.bind_some]
    rw [if_neg (show ¬ ((x.f0 == E0) = true) by rw [E0_ne hm]; simp)]
    have hset : ∀ y : S32, y.f0 = s → tarryref08_Set.f k l y.f0 y.f1 y.f2 y.f3 y.f4 y.f5 = some (l.set (at_ s l) y) := fun y hy => by
      have := rset_yes (x := y) (y := x) hk hr hs (by rw [hy]; exact hx) (by rw [hy]; exact e)
      rw [this, hy]
    obtain ⟨g0, g1, g2, g3, g4, g5, g6⟩ := hm
    unfold inU at *
    have hlen : (l.set (at_ s l) (mv q n x)).length ≤ 18 := by rw [List.length_set]; exact hl
    refine ⟨if there q x < n then ([], 11) else (l.set (at_ s l) (mv q n x), 0), ?_, rfl, by split <;> simp; exact hl⟩
    have arm : ∀ (c : Int) (y : S32) (o : Option (List S32 × Int)), y = mv q n x → y.f0 = s → there q x = c → (¬ c < n → o = (tarryref08_Set.f k l y.f0 y.f1 y.f2 y.f3 y.f4 y.f5).bind fun r => some (r, 0)) → (if c < n then some (([] : List S32), 11) else o) = some (if there q x < n then ([], 11) else (l.set (at_ s l) (mv q n x), 0)) := by
      intro c y o hy hys hc ho
      subst hy
      rw [hc]
      by_cases hcn : c < n
      · rw [if_pos hcn, if_pos hcn]
      · rw [if_neg hcn, if_neg hcn, ho hcn, hset _ hys]
        rfl
    by_cases q1 : q = 1
    · subst q1
      simp only [tarryref08_Move.j1, Int.reduceEq, reduceIte]
      refine arm _ ⟨x.f0, x.f1, x.f2 - n, x.f3 + n, x.f4, x.f5⟩ _ rfl e rfl fun hc => ?_
      rw [w64n (n := x.f2 - n) (by omega) (by omega), w64n (n := x.f3 + n) (by omega) (by omega)]
    · by_cases q2 : q = 2
      · subst q2
        simp only [tarryref08_Move.j1, Int.reduceEq, reduceIte]
        refine arm _ ⟨x.f0, x.f1, x.f2 + n, x.f3 - n, x.f4, x.f5⟩ _ rfl e rfl fun hc => ?_
        rw [w64n (n := x.f2 + n) (by omega) (by omega), w64n (n := x.f3 - n) (by omega) (by omega)]
      · by_cases q3 : q = 3
        · subst q3
          simp only [tarryref08_Move.j1, Int.reduceEq, reduceIte]
          refine arm _ ⟨x.f0, x.f1, x.f2, x.f3 - n, x.f4 + n, x.f5⟩ _ rfl e rfl fun hc => ?_
          rw [w64n (n := x.f3 - n) (by omega) (by omega), w64n (n := x.f4 + n) (by omega) (by omega)]
        · obtain rfl : q = 4 := by omega
          simp only [tarryref08_Move.j1, Int.reduceEq, reduceIte]
          refine arm _ ⟨x.f0, x.f1, x.f2 - n, x.f3, x.f4, x.f5 + n⟩ _ rfl e rfl fun hc => ?_
          rw [w64n (n := x.f2 - n) (by omega) (by omega), w64n (n := x.f5 + n) (by omega) (by omega)]
  · rw [rget_no hk hl hn, does_no (by omega) hr hu hn]
    exact ⟨_, rfl, rfl, by simp⟩
theorem put_len (x : S32) (l : List S32) : (put_ x l).length = l.length + 1 := by
  have := atle x.f0 l
  unfold put_
  simp only [List.length_append, List.length_take, List.length_drop, List.length_cons, List.length_nil]
  omega
theorem rreceive_tells {k : Nat} {s : ByteArray} {l : List S32} {n : Int} (hk : 200 ≤ k) (hl : l.length ≤ 18) (hs : shorts l) (hss : s.size ≤ 100) : ∃ p, tarryref08_Receive.f k l s n = some p ∧ stock_Receive.f k l s n = some p ∧ p.1.length ≤ 18 := by
  obtain ⟨b, h1, h2⟩ := rright_tells k hk l hl hs
  unfold tarryref08_Receive.f
  rw [h1, Option.bind_some]
  by_cases hr : Rt l
  case neg =>
    rw [if_neg (fun e => hr (h2.1 e)), receive_bad (by omega) hl (.inl hr)]
    exact ⟨_, rfl, rfl, by simp⟩
  have hl8 := hr.1
  obtain rfl : b = true := h2.2 hr
  rw [if_pos rfl, runits_tells, Option.bind_some]
  by_cases hu : 1 ≤ n ∧ n ≤ 1073741824
  case neg =>
    rw [if_neg (by simpa using hu), receive_bad (by omega) hl (.inr (.inl hu))]
    exact ⟨_, rfl, rfl, by simp⟩
  rw [if_pos (decide_eq_true hu), rname_tells k s (by omega) (by omega), Option.bind_some]
  cases hnm : nm s with
  | false =>
    rw [if_neg (by simp), receive_bad (by omega) hl (.inr (.inr hnm))]
    exact ⟨_, rfl, rfl, by simp⟩
  | true =>
  rw [if_pos rfl]
  rcases find_is hr s with ⟨x, hx, e⟩ | hn
  · rw [rget_yes hk hr hx e, receive_yes (by omega) hr hu hx e]
    have hm := hr.2.1 x (List.mem_of_getElem? hx)
    simp only [Option.bind_some]
    rw [if_neg (show ¬ ((x.f0 == E0) = true) by rw [E0_ne hm]; simp)]
    obtain ⟨g0, g1, g2, g3, g4, g5, g6⟩ := hm
    unfold inU at *
    refine ⟨_, ?_, rfl, by split <;> simp; exact hl⟩
    rw [w64n (n := x.f1 + n) (by omega) (by omega), w64n (n := x.f2 + n) (by omega) (by omega)]
    by_cases hc : x.f1 + n > 1073741824
    · rw [if_pos hc, if_pos hc]
    · rw [if_neg hc, if_neg hc]
      have := rset_yes (x := ⟨s, x.f1 + n, x.f2 + n, x.f3, x.f4, x.f5⟩) (y := x) hk hr hs hx e
      simp only at this
      rw [this]
      simp [got, e]
  · rw [rget_no hk hl hn, receive_new (by omega) hr hu hnm hn]
    simp only [Option.bind_some]
    rw [if_pos (by decide)]
    refine ⟨_, ?_, rfl, by split <;> simp [put_len]; omega⟩
    by_cases h8 : l.length = 8
    · rw [if_pos (by omega), if_pos h8]
    · rw [if_neg (by omega), if_neg h8, w64n (n := 0 + n) (by omega) (by omega), if_neg (by omega)]
      have := rset_no (x := ⟨s, 0 + n, 0 + n, 0, 0, 0⟩) hk hr hs hn
      simp only at this
      rw [this]
      simp
theorem StockMoves : tarrylaw08_StockMoves.Pure := by
  intro l0 s0 n _ _ _
  refine ⟨200, ?_⟩
  unfold tarrylaw08_StockMoves.f
  obtain ⟨l, h0, hl, hs⟩ := few_tells 200 (by omega) l0
  obtain ⟨c1, c2, c3⟩ := cut_tells s0
  rw [h0, Option.bind_some, if_pos c1, if_pos c2]
  have hloop : tarrylaw08_StockMoves.l1 = tarrylaw08_StockMoves.l1 := rfl
  generalize hs0 : s0.extract 0 ((mn (s0.size : Int) 18).toNat) = s at c3
  obtain ⟨p, g1, g2, g3⟩ := rreceive_tells (k := 200) (s := s) (n := n) (by omega) (by omega) hs (by omega)
  obtain ⟨b1, f1, f2⟩ := right_tells 200 (by omega) l (by omega)
  obtain ⟨b2, f3, f4⟩ := rright_tells 200 (by omega) l (by omega) hs
  have hb : b1 = b2 := by rw [Bool.eq_iff_iff, f2, f4]
  subst hb
  obtain ⟨p1, p2⟩ := p
  simp only at g3
  rw [g1, g2]
  simp only [Option.bind_some, f1, f3, if_true, same_self 200 p1 (by omega) (by omega), alive_tells]
  have step : ∀ (t : ByteArray) (a b c d e f : Int) (m : Nat) (q : Int), 1 ≤ q ∧ q ≤ 4 → tarrylaw08_StockMoves.l1 200 s0 n l t a b c d e f (m + 1) q = tarrylaw08_StockMoves.l1 200 s0 n l t a b c d e f m (q + 1) := by
    intro t a b c d e f m q hq
    obtain ⟨p, k1, k2, k3⟩ := rmove_tells (k := 200) (s := s) (n := n) (by omega) hq (by omega) hs
    obtain ⟨p1, p2⟩ := p
    simp only at k3
    rw [tarrylaw08_StockMoves.l1, if_pos (by omega), hs0, k1, k2]
    simp only [Option.bind_some, if_true, same_self 200 p1 (by omega) (by omega)]
    rw [w64n (by omega) (by omega)]
  have fin : ∀ (t : ByteArray) (a b c d e f : Int), stock_Get.f 200 l s = some (t, a, b, c, d, e, f) → tarrylaw08_StockMoves.l1 200 s0 n l t a b c d e f 200 1 = some true := by
    intro t a b c d e f hg
    rw [step _ _ _ _ _ _ _ 199 1 (by decide), step _ _ _ _ _ _ _ 198 (1 + 1) (by decide), step _ _ _ _ _ _ _ 197 (1 + 1 + 1) (by decide), step _ _ _ _ _ _ _ 196 (1 + 1 + 1 + 1) (by decide), tarrylaw08_StockMoves.l1, if_neg (by decide), f3, Option.bind_some, hs0]
    by_cases hr : Rt l
    · obtain rfl : b1 = true := f2.2 hr
      rw [if_pos rfl]
      rcases find_is hr s with ⟨x, hx, e1⟩ | hn
      · rw [get_yes (by omega) hr hx e1] at hg
        obtain ⟨rfl, rfl, rfl, rfl, rfl, rfl, rfl⟩ : x.f0 = t ∧ x.f1 = a ∧ x.f2 = b ∧ x.f3 = c ∧ x.f4 = d ∧ x.f5 = e ∧ 0 = f := by simpa using hg
        have hne := E0_ne (hr.2.1 x (List.mem_of_getElem? hx))
        rw [rget_yes (by omega) hr hx e1]
        simp [beq_is, bne]
        rw [beq_is] at hne
        simpa using hne
      · rw [get_no (by omega) hr hn] at hg
        obtain ⟨rfl, rfl, rfl, rfl, rfl, rfl, rfl⟩ : E0 = t ∧ 0 = a ∧ 0 = b ∧ 0 = c ∧ 0 = d ∧ 0 = e ∧ 8 = f := by simpa using hg
        rw [rget_no (by omega) (by omega) hn]
        simp [beq_is, bne]
    · have : b1 = false := by cases b1 with | false => rfl | true => exact absurd (f2.1 rfl) hr
      subst this
      rw [get_bad (by omega) (by omega) hr] at hg
      obtain ⟨rfl, rfl, rfl, rfl, rfl, rfl, rfl⟩ : E0 = t ∧ 0 = a ∧ 0 = b ∧ 0 = c ∧ 0 = d ∧ 0 = e ∧ 1 = f := by simpa using hg
      simp [beq_is]
  have hgt : ∃ t a b c d e f, stock_Get.f 200 l s = some (t, a, b, c, d, e, f) := by
    by_cases hr : Rt l
    · rcases find_is hr s with ⟨x, hx, e1⟩ | hn
      · exact ⟨_, _, _, _, _, _, _, get_yes (by omega) hr hx e1⟩
      · exact ⟨_, _, _, _, _, _, _, get_no (by omega) hr hn⟩
    · exact ⟨_, _, _, _, _, _, _, get_bad (by omega) (by omega) hr⟩
  obtain ⟨t, a, b, c, d, e, f, hg⟩ := hgt
  rw [hg]
  simp only [Option.bind_some]
  exact fin t a b c d e f hg
end Go.Proofs.Ytibpoajlnloloaa.Pure
