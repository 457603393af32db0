/- StockKeeps: StockKeeps: at every list of acts the statement's Go function answers true (whatever comes in, is held, released, shipped and lost, stock stays such as may be, and all that came in is what is free, held, shipped and lost); no further condition. -/
import Derived.Test.YtibpoajlnloloaaRStockKeeps
namespace Go.Proofs.Ytibpoajlnloloaa.Pure
open Go Go.RowKit Go.Proofs.Ytibpoajlnloloaa.PStockKeeps Go.Proofs.YtibpoajlnloloaaV 
set_option linter.unusedSimpArgs false
set_option linter.unusedVariables false
theorem take_drop0 {α : Type} (l : List α) (i : Nat) : (l.take i).drop 0 = l.take i := rfl
theorem w64n {n : Int} (h1 : -9000000000000000000 ≤ n) (h2 : n ≤ 9000000000000000000) : wrap64 n = n := by unfold wrap64; omega
/-- A binary search's middle. -/
theorem mid_is {i j : Nat} (hi : i ≤ 1000000) (hj : j ≤ 1000000) : wrap64 ((IntKind.u64.wrap (wrap64 ((i : Int) + (j : Int)))).fdiv (2 ^ min (1 : Int).toNat IntKind.u64.bits)) = (((i + j) / 2 : Nat) : Int) := by
  have e1 : wrap64 ((i : Int) + (j : Int)) = ((i + j : Nat) : Int) := by unfold wrap64; omega
  have e2 : IntKind.u64.wrap ((i + j : Nat) : Int) = ((i + j : Nat) : Int) := by
    have h : IntKind.u64.wrap ((i + j : Nat) : Int) = ((i + j : Nat) : Int) % 18446744073709551616 := rfl
    rw [h]
    omega
  have e3 : (2 : Int) ^ min (1 : Int).toNat IntKind.u64.bits = 2 := by decide
  rw [e1, e2, e3, Int.fdiv_eq_ediv_of_nonneg _ (by decide)]
  unfold wrap64
  omega
/-- The things ahead of the first one that is not so. -/
theorem tw_len_le {α : Type} (p : α → Bool) (l : List α) : (l.takeWhile p).length ≤ l.length := by
  induction l with
  | nil => simp
  | cons x xs ih => rw [List.takeWhile_cons]; split <;> simp <;> omega
theorem tw_lt {α : Type} (p : α → Bool) : ∀ (l : List α) (i : Nat) (x : α), l[i]? = some x → i < (l.takeWhile p).length → p x = true
  | [], i, x, h, _ => by simp at h
  | y :: l, 0, x, h, hi => by
    simp only [List.getElem?_cons_zero, Option.some.injEq] at h
    subst h
    rw [List.takeWhile_cons] at hi
    by_cases hp : p y = true
    · exact hp
    · rw [if_neg hp] at hi; simp at hi
  | y :: l, i + 1, x, h, hi => by
    simp only [List.getElem?_cons_succ] at h
    rw [List.takeWhile_cons] at hi
    split at hi
    · exact tw_lt p l i x h (by simpa using hi)
    · simp at hi
theorem tw_at {α : Type} (p : α → Bool) : ∀ (l : List α) (x : α), l[(l.takeWhile p).length]? = some x → p x = false
  | [], x, h => by simp at h
  | y :: l, x, h => by
    rw [List.takeWhile_cons] at h
    by_cases hp : p y = true
    · rw [if_pos hp] at h
      simp only [List.length_cons, List.getElem?_cons_succ] at h
      exact tw_at p l x h
    · rw [if_neg hp] at h
      simp only [List.length_nil, List.getElem?_cons_zero, Option.some.injEq] at h
      subst h
      simpa using hp
/-- Where what is so stands ahead of what is not. -/
def Downs {α : Type} (p : α → Bool) (l : List α) : Prop := ∀ (i j : Nat) (x y : α), i < j → l[i]? = some x → l[j]? = some y → p y = true → p x = true
theorem tw_ge {α : Type} {p : α → Bool} {l : List α} (h : Downs p l) {i : Nat} {x : α} (hx : l[i]? = some x) (hi : (l.takeWhile p).length ≤ i) : p x = false := by
  have hl := (List.getElem?_eq_some_iff.1 hx).1
  obtain ⟨y, hn⟩ : ∃ y, l[(l.takeWhile p).length]? = some y := ⟨_, List.getElem?_eq_getElem (by omega)⟩
  have h0 := tw_at p l _ hn
  rcases Nat.lt_or_eq_of_le hi with h1 | h1
  · cases hp : p x with
    | false => rfl
    | true => rw [h _ _ _ _ h1 hn hx hp] at h0; cases h0
  · rw [h1, hx] at hn
    obtain rfl := Option.some.inj hn
    exact h0
theorem take_tw {α : Type} (p : α → Bool) (l : List α) : l.take (l.takeWhile p).length = l.takeWhile p := by
  induction l with
  | nil => rfl
  | cons x xs ih => rw [List.takeWhile_cons]; split <;> simp [ih]
theorem drop_tw {α : Type} (p : α → Bool) (l : List α) : l.drop (l.takeWhile p).length = l.dropWhile p := by
  induction l with
  | nil => rfl
  | cons x xs ih => rw [List.takeWhile_cons, List.dropWhile_cons]; split <;> simp [ih]
theorem pw_get {α : Type} {R : α → α → Prop} {l : List α} (h : l.Pairwise R) {i j : Nat} {x y : α} (hij : i < j) (hx : l[i]? = some x) (hy : l[j]? = some y) : R x y := by
  obtain ⟨h1, rfl⟩ := List.getElem?_eq_some_iff.1 hx
  obtain ⟨h2, rfl⟩ := List.getElem?_eq_some_iff.1 hy
  exact List.pairwise_iff_getElem.1 h i j h1 h2 hij
theorem pw_of_get {α : Type} {R : α → α → Prop} {l : List α} (h : ∀ (i j : Nat) (x y : α), i < j → l[i]? = some x → l[j]? = some y → R x y) : l.Pairwise R :=
  List.pairwise_iff_getElem.2 fun i j h1 h2 hij => h i j _ _ hij (List.getElem?_eq_getElem h1) (List.getElem?_eq_getElem h2)
theorem drop_cons_is {α : Type} {l : List α} {i : Nat} {x : α} {xs : List α} (h : l.drop i = x :: xs) : i < l.length ∧ l[i]? = some x ∧ l.drop (i + 1) = xs := by
  have h1 : i < l.length := by have := congrArg List.length h; simp at this; omega
  rw [List.drop_eq_getElem_cons h1] at h
  obtain ⟨h2, h3⟩ := List.cons.inj h
  exact ⟨h1, by rw [List.getElem?_eq_getElem h1, h2], h3⟩
theorem drop_nil_is {α : Type} {l : List α} {i : Nat} (h : l.drop i = []) : l.length ≤ i := by have := congrArg List.length h; simp at this; omega
theorem filter_split {α : Type} (p : α → Bool) (l : List α) : (l.filter p).length + (l.filter (fun x => !p x)).length = l.length := by
  induction l with
  | nil => rfl
  | cons x xs ih => by_cases h : p x = true <;> simp [List.filter_cons, h] <;> omega
theorem mem_tw_dw {α : Type} (p : α → Bool) (l : List α) (y : α) : (y ∈ l.takeWhile p ∨ y ∈ l.dropWhile p) ↔ y ∈ l := by
  rw [← List.mem_append, List.takeWhile_append_dropWhile]
theorem mem_tw {α : Type} {p : α → Bool} {l : List α} {y : α} (h : y ∈ l.takeWhile p) : p y = true := by
  obtain ⟨i, hi⟩ := List.getElem?_of_mem h
  have hlt := (List.getElem?_eq_some_iff.1 hi).1
  rw [← take_tw, List.getElem?_take, if_pos hlt] at hi
  exact tw_lt p l i y hi hlt
theorem mem_dw {α : Type} {p : α → Bool} {l : List α} (hd : Downs p l) {y : α} (h : y ∈ l.dropWhile p) : p y = false := by
  obtain ⟨i, hi⟩ := List.getElem?_of_mem h
  rw [← drop_tw, List.getElem?_drop] at hi
  exact tw_ge hd hi (by omega)
/-- Two rows that rise, of the same things, are the same row. -/
theorem eq_of_rise {α : Type} {R : α → α → Prop} (irr : ∀ a b, R a b → ¬ R b a) : ∀ (l l' : List α), l.Pairwise R → l'.Pairwise R → (∀ x, x ∈ l ↔ x ∈ l') → l = l'
  | [], [], _, _, _ => rfl
  | [], b :: l', _, _, h => by have := (h b).2 (by simp); cases this
  | a :: l, [], _, _, h => by have := (h a).1 (by simp); cases this
  | a :: l, b :: l', h1, h2, h => by
    rw [List.pairwise_cons] at h1 h2
    have hab : a = b := by
      rcases List.mem_cons.1 ((h a).1 (by simp)) with e | e
      · exact e
      rcases List.mem_cons.1 ((h b).2 (by simp)) with e2 | e2
      · exact e2.symm
      exact absurd (h1.1 b e2) (irr _ _ (h2.1 a e))
    subst hab
    have hna : ∀ x, R x x → False := fun x hx => irr x x hx hx
    rw [eq_of_rise irr l l' h1.2 h2.2 fun x => ⟨fun hx => ?_, fun hx => ?_⟩]
    · rcases List.mem_cons.1 ((h x).1 (by simp [hx])) with e | e
      · subst e; exact absurd (h1.1 _ hx) (hna _)
      · exact e
    · rcases List.mem_cons.1 ((h x).2 (by simp [hx])) with e | e
      · subst e; exact absurd (h2.1 _ hx) (hna _)
      · exact e
theorem filter_tw {α : Type} {p : α → Bool} : ∀ {l : List α}, Downs p l → l.filter p = l.takeWhile p
  | [], _ => rfl
  | x :: xs, h => by
    by_cases hx : p x = true
    · rw [List.filter_cons, if_pos hx, List.takeWhile_cons, if_pos hx, filter_tw (l := xs) fun i j a b hij ha hb hp => h (i + 1) (j + 1) a b (by omega) (by simpa using ha) (by simpa using hb) hp]
    · rw [List.takeWhile_cons, if_neg hx, List.filter_eq_nil_iff]
      intro y hy hp
      obtain ⟨j, hj⟩ := List.getElem?_of_mem hy
      cases j with
      | zero => simp at hj; subst hj; exact hx hp
      | succ j => exact hx (h 0 (j + 1) x y (by omega) rfl hj hp)
theorem tw_mono {α : Type} {p q : α → Bool} (h : ∀ x, p x = true → q x = true) (l : List α) : (l.takeWhile p).length ≤ (l.takeWhile q).length := by
  induction l with
  | nil => simp
  | cons x xs ih =>
    rw [List.takeWhile_cons, List.takeWhile_cons]
    by_cases hx : p x = true
    · rw [if_pos hx, if_pos (h x hx)]; simp; omega
    · rw [if_neg hx]; simp
theorem pw_of_adj {α : Type} {R : α → α → Prop} (tr : ∀ {a b c}, R a b → R b c → R a c) {l : List α} (h : ∀ (i : Nat) (x y : α), l[i]? = some x → l[i + 1]? = some y → R x y) : l.Pairwise R := by
  have hall : ∀ (d i : Nat) (x y : α), l[i]? = some x → l[i + 1 + d]? = some y → R x y := by
    intro d
    induction d with
    | zero => intro i x y hx hy; exact h i x y hx hy
    | succ d ih =>
      intro i x y hx hy
      have hlt := (List.getElem?_eq_some_iff.1 hy).1
      have hz : l[i + 1 + d]? = some l[i + 1 + d] := List.getElem?_eq_getElem (by omega)
      exact tr (ih i x _ hx hz) (h (i + 1 + d) _ y hz hy)
  exact pw_of_get fun i j x y hij hx hy => hall (j - i - 1) i x y hx (by rw [show i + 1 + (j - i - 1) = j by omega]; exact hy)
theorem ba_toList_loop (a : ByteArray) : ∀ (d i : Nat) (r : List UInt8), a.size - i = d → ByteArray.toList.loop a i r = r.reverse ++ a.data.toList.drop i := by
  intro d
  induction d with
  | zero =>
    intro i r h
    unfold ByteArray.toList.loop
    have h1 : ¬ i < a.size := by omega
    rw [if_neg h1, List.drop_eq_nil_of_le (by show a.data.toList.length ≤ i; rw [Array.length_toList]; exact Nat.le_of_not_lt h1), List.append_nil]
  | succ d ih =>
    intro i r h
    unfold ByteArray.toList.loop
    have h1 : i < a.size := by omega
    have h2 : i < a.data.toList.length := by rw [Array.length_toList]; exact h1
    rw [if_pos h1, ih (i + 1) _ (by omega), List.reverse_cons, List.append_assoc, List.drop_eq_getElem_cons h2]
    have h3 : a.get! i = a.data.toList[i] := by
      show a.data[i]! = _
      rw [getElem!_pos a.data i h1]
      rfl
    rw [h3]
    rfl
theorem ba_toList (a : ByteArray) : a.toList = a.data.toList := by
  unfold ByteArray.toList
  rw [ba_toList_loop a a.size 0 [] (by omega)]
  rfl
/-! ### texts in order -/
theorem cb_self : ∀ l : List UInt8, Lib.compareBytes l l = 0
  | [] => rfl
  | a :: l => by
    have : ¬ a < a := by simp [UInt8.lt_iff_toNat_lt]
    rw [Lib.compareBytes, if_neg this, if_neg this]
    exact cb_self l
theorem cb_eq : ∀ (a b : List UInt8), Lib.compareBytes a b = 0 → a = b
  | [], [], _ => rfl
  | [], _ :: _, h => by rw [Lib.compareBytes] at h; omega
  | _ :: _, [], h => by rw [Lib.compareBytes] at h; omega
  | a :: xs, b :: ys, h => by
    rw [Lib.compareBytes] at h
    split at h
    · omega
    · split at h
      · omega
      · rename_i h1 h2
        have : a = b := by
          apply UInt8.toNat_inj.1
          simp only [UInt8.lt_iff_toNat_lt] at h1 h2
          omega
        rw [this, cb_eq xs ys h]
theorem cb_anti : ∀ (a b : List UInt8), Lib.compareBytes a b = - Lib.compareBytes b a
  | [], [] => rfl
  | [], _ :: _ => rfl
  | _ :: _, [] => rfl
  | a :: xs, b :: ys => by
    rw [Lib.compareBytes, Lib.compareBytes, cb_anti xs ys]
    simp only [UInt8.lt_iff_toNat_lt]
    split <;> split <;> omega
theorem cb_trans : ∀ (a b c : List UInt8), Lib.compareBytes a b < 0 → Lib.compareBytes b c < 0 → Lib.compareBytes a c < 0
  | [], [], _, h, _ => by rw [Lib.compareBytes] at h; omega
  | [], _ :: _, [], _, h => by rw [Lib.compareBytes] at h; omega
  | [], _ :: _, _ :: _, _, _ => by rw [Lib.compareBytes]; omega
  | _ :: _, [], _, h, _ => by rw [Lib.compareBytes] at h; omega
  | _ :: _, _ :: _, [], _, h => by rw [Lib.compareBytes] at h; omega
  | a :: xs, b :: ys, c :: zs, h1, h2 => by
    have ih := cb_trans xs ys zs
    rw [Lib.compareBytes] at h1 h2 ⊢
    simp only [UInt8.lt_iff_toNat_lt] at *
    split at h1
    · split at h2
      · rw [if_pos (by omega)]; omega
      · split at h2
        · omega
        · rw [if_pos (by omega)]; omega
    · split at h1
      · omega
      · split at h2
        · rw [if_pos (by omega)]; omega
        · split at h2
          · omega
          · rw [if_neg (by omega), if_neg (by omega)]
            exact ih h1 h2
theorem bl_is : ∀ (a b : List UInt8), Op.bytesLess a b = decide (Lib.compareBytes a b < 0)
  | [], [] => rfl
  | [], _ :: _ => rfl
  | _ :: _, [] => rfl
  | a :: xs, b :: ys => by
    rw [Op.bytesLess, Lib.compareBytes, bl_is xs ys]
    simp only [UInt8.lt_iff_toNat_lt]
    by_cases h1 : a.toNat < b.toNat
    · simp [h1]
    · by_cases h2 : b.toNat < a.toNat
      · have : ¬ a = b := fun e => by rw [e] at h2; omega
        simp [h1, h2, this]
      · have : a = b := UInt8.toNat_inj.1 (by omega)
        simp [this]
def sc (a b : ByteArray) : Int := Lib.compareBytes a.data.toList b.data.toList
def sl (a b : ByteArray) : Prop := sc a b < 0
instance (a b : ByteArray) : Decidable (sl a b) := by unfold sl; exact inferInstance
theorem sl_trans {a b c : ByteArray} (h1 : sl a b) (h2 : sl b c) : sl a c := cb_trans _ _ _ h1 h2
theorem sc_self (a : ByteArray) : sc a a = 0 := cb_self _
theorem sc_anti (a b : ByteArray) : sc a b = - sc b a := cb_anti _ _
theorem sc_eq {a b : ByteArray} : sc a b = 0 ↔ a = b := by
  refine ⟨fun h => ?_, fun h => by rw [h]; exact sc_self b⟩
  have := cb_eq _ _ h
  cases a with
  | mk a =>
    cases b with
    | mk b => simpa using this
theorem sl_irr (a : ByteArray) : ¬ sl a a := by unfold sl; rw [sc_self]; decide
theorem sl_asymm {a b : ByteArray} (h : sl a b) : ¬ sl b a := by unfold sl at *; rw [sc_anti b a]; omega
theorem sl_tri {a b : ByteArray} (h : ¬ sl a b) (hne : a ≠ b) : sl b a := by
  unfold sl at *
  rw [sc_anti b a]
  have : sc a b ≠ 0 := fun e => hne (sc_eq.1 e)
  omega
theorem bytesLess_is (a b : ByteArray) : Op.bytesLess a.toList b.toList = decide (sl a b) := by rw [ba_toList, ba_toList]; exact bl_is _ _
/-! ### bytes -/
theorem bt_is {s : ByteArray} {i : Nat} (h : i < s.size) : (byI s)[i]? = some (bt s i) := by
  unfold byI bt
  rw [List.getElem?_map, Array.getElem?_toList, Int.toNat_natCast, dif_pos h]
  have : s.data[i]? = some s.data[i] := Array.getElem?_eq_getElem h
  rw [this]
  rfl
theorem byI_sl (a b : ByteArray) : a.data.toList.map (fun c => (c.toNat : Int)) = byI a := rfl
def charB (c : Int) : Bool := (decide (97 ≤ c) && decide (c ≤ 122)) || (decide (48 ≤ c) && decide (c ≤ 57))
theorem charB_eq (c : Int) : charB c = decide ((97 ≤ c ∧ c ≤ 122) ∨ (48 ≤ c ∧ c ≤ 57)) := by
  unfold charB
  simp only [Bool.decide_or, Bool.decide_and]
/-- May a text be a name? -/
def nm (s : ByteArray) : Bool := decide (s.size ≠ 0) && (decide (s.size ≤ 16) && (byI s).all charB)
theorem beq_is (a b : ByteArray) : (a == b) = decide (a = b) := by
  rw [beq_toListBytes, ba_toList, ba_toList, Bool.eq_iff_iff, beq_iff_eq, decide_eq_true_eq]
  refine ⟨fun h => ?_, fun h => by rw [h]⟩
  cases a with
  | mk a =>
    cases b with
    | mk b => simpa using h
theorem nil_is (s : ByteArray) : (s == (⟨#[]⟩ : ByteArray)) = decide (s.size = 0) := by
  rw [beq_is, decide_eq_decide]
  refine ⟨fun h => by rw [h]; rfl, fun h => ?_⟩
  cases s with
  | mk d =>
    have : d = #[] := Array.eq_empty_of_size_eq_zero h
    rw [this]
theorem odd_tells (c : Int) : goods_name_1.f c = some (!charB c) := by
  unfold goods_name_1.f
  rw [charB_eq]
  by_cases hP : (97 ≤ c ∧ c ≤ 122) ∨ (48 ≤ c ∧ c ≤ 57)
  · rw [decide_eq_true hP]
    (repeat' split) <;> first | rfl | omega | (rw [decide_eq_false (by omega)]; rfl)
  · rw [decide_eq_false hP]
    (repeat' split) <;> first | rfl | omega | (rw [decide_eq_true (by omega)]; rfl)
theorem bytes_tells (k : Nat) (l : List Int) (hk : l.length < k) (hs : l.length < 1000000) : slices_ContainsFunc_byte_byte.f k l = some (l.any (fun c => !charB c)) := by
  have key : ∀ (xs : List Int) (i : Nat), ∃ j, slices_IndexFunc_byte_byte.r1 k l xs i = some j ∧ decide (j ≥ 0) = xs.any (fun c => !charB c) := by
    intro xs
    induction xs with
    | nil => intro i; exact ⟨-1, rfl, rfl⟩
    | cons x xs ih =>
      intro i
      rw [slices_IndexFunc_byte_byte.r1, odd_tells, Option.bind_some, List.any_cons]
      cases charB x with
      | false => exact ⟨i, rfl, by simp⟩
      | true => simpa using ih (i + 1)
  unfold slices_ContainsFunc_byte_byte.f slices_IndexFunc_byte_byte.f
  have := slices_IndexFunc_byte_byte.r1_eq k l (by omega) k 0 (by omega) (by omega)
  rw [show ((0 : Nat) : Int) = 0 from rfl, List.drop_zero] at this
  rw [this]
  obtain ⟨j, h1, h2⟩ := key l 0
  rw [h1, Option.bind_some, h2]
theorem name_tells (k : Nat) (hk : 20 ≤ k) (s : ByteArray) : goods_name.f k s = some (nm s) := by
  unfold goods_name.f nm
  rw [nil_is]
  by_cases h0 : s.size = 0
  · simp [h0]
  · rw [if_neg (by simpa using h0)]
    by_cases h1 : s.size ≤ 16
    · rw [if_pos (by omega), if_pos (by omega), bytes_tells k _ (by rw [byI_len]; omega) (by rw [byI_len]; omega), Option.bind_some]
      have : (byI s).any (fun c => !charB c) = !(byI s).all charB := by rw [List.not_all_eq_any_not]
      rw [this]
      cases (byI s).all charB <;> simp [h0, h1]
    · rw [if_neg (by omega)]
      simp [h1]
theorem csub_nil (k : Nat) : True := trivial
theorem gright_one (k : Nat) (hk : 20 ≤ k) (s : ByteArray) : goods_Right.f k [s] [] = some (nm s) := by
  obtain ⟨k, rfl⟩ : ∃ q, k = q + 2 := ⟨k - 2, by omega⟩
  have h1 : slices_ContainsFunc_string_string.f (k + 2) [s] = some (!nm s) := by
    unfold slices_ContainsFunc_string_string.f slices_IndexFunc_string_string.f
    have := slices_IndexFunc_string_string.r1_eq (k + 2) [s] (by simp) (k + 2) 0 (by simp) (by simp)
    rw [show ((0 : Nat) : Int) = 0 from rfl, List.drop_zero] at this
    rw [this, slices_IndexFunc_string_string.r1, goods_Right_2.f, name_tells (k + 2) hk, Option.bind_some]
    cases nm s <;> rfl
  have h2 : goods_rising_string.f (k + 2) [s] 8 = some true := by
    unfold goods_rising_string.f
    rw [goods_rising_string.l1, if_neg (by simp)]
    rfl
  have h3 : goods_rising_Sub.f (k + 2) [] 16 = some true := by
    unfold goods_rising_Sub.f
    rw [goods_rising_Sub.l1, if_neg (by simp)]
    rfl
  unfold goods_Right.f
  rw [goods_Right.l1, if_neg (by simp), h1, Option.bind_some, h2, Option.bind_some, h3]
  cases nm s <;> rfl
def inU (n : Int) : Prop := 0 ≤ n ∧ n ≤ 1073741824
instance (n : Int) : Decidable (inU n) := by unfold inU; exact inferInstance
def mayR (x : S32) : Prop := nm x.f0 = true ∧ inU x.f1 ∧ inU x.f2 ∧ inU x.f3 ∧ inU x.f4 ∧ inU x.f5 ∧ x.f1 = x.f2 + x.f3 + x.f4 + x.f5
instance (x : S32) : Decidable (mayR x) := by unfold mayR; exact inferInstance
theorem sname_tells (k : Nat) (hk : 20 ≤ k) (s : ByteArray) : stock_name.f k s = some (nm s) := by
  unfold stock_name.f
  rw [gright_one k hk, Option.bind_some]
theorem units_tells (n : Int) : stock_units.f n = some (decide (1 ≤ n ∧ n ≤ 1073741824)) := by
  unfold stock_units.f
  split
  · congr 1; rw [decide_eq_decide]; omega
  · congr 1; symm; apply decide_eq_false; omega
theorem oddn_tells (n : Int) : stock_may_1.f n = some (!decide (inU n)) := by
  unfold stock_may_1.f
  rw [units_tells]
  by_cases h0 : n = 0
  · rw [if_pos h0, h0]; rfl
  · rw [if_neg h0, Option.bind_some]
    by_cases h1 : 1 ≤ n ∧ n ≤ 1073741824
    · rw [if_pos (decide_eq_true h1), decide_eq_true (by unfold inU; omega)]; rfl
    · rw [if_neg (by simpa using h1), decide_eq_false (by unfold inU; omega)]; rfl
theorem ints_tells (k : Nat) (l : List Int) (hk : l.length < k) (hs : l.length < 1000000) : slices_ContainsFunc_int_int.f k l = some (l.any (fun c => !decide (inU c))) := by
  have key : ∀ (xs : List Int) (i : Nat), ∃ j, slices_IndexFunc_int_int.r1 k l xs i = some j ∧ decide (j ≥ 0) = xs.any (fun c => !decide (inU c)) := by
    intro xs
    induction xs with
    | nil => intro i; exact ⟨-1, rfl, rfl⟩
    | cons x xs ih =>
      intro i
      rw [slices_IndexFunc_int_int.r1, oddn_tells, Option.bind_some, List.any_cons]
      cases decide (inU x) with
      | false => exact ⟨i, rfl, by simp⟩
      | true => simpa using ih (i + 1)
  unfold slices_ContainsFunc_int_int.f slices_IndexFunc_int_int.f
  have := slices_IndexFunc_int_int.r1_eq k l (by omega) k 0 (by omega) (by omega)
  rw [show ((0 : Nat) : Int) = 0 from rfl, List.drop_zero] at this
  rw [this]
  obtain ⟨j, h1, h2⟩ := key l 0
  rw [h1, Option.bind_some, h2]
theorem mayR_tells (k : Nat) (hk : 20 ≤ k) (x : S32) : stock_may.f k x.f0 x.f1 x.f2 x.f3 x.f4 x.f5 = some (decide (mayR x)) := by
  unfold stock_may.f
  rw [sname_tells k hk, Option.bind_some]
  cases hn : nm x.f0 with
  | false => rw [if_neg (by simp), decide_eq_false (by unfold mayR; rw [hn]; simp)]
  | true =>
    rw [if_pos rfl, ints_tells k _ (by simp; omega) (by simp), Option.bind_some]
    by_cases ho : inU x.f1 ∧ inU x.f2 ∧ inU x.f3 ∧ inU x.f4 ∧ inU x.f5
    · rw [if_neg (by simp [ho])]
      obtain ⟨h1, h2, h3, h4, h5⟩ := ho
      have hw : wrap64 ((wrap64 ((wrap64 (x.f2 + x.f3)) + x.f4)) + x.f5) = x.f2 + x.f3 + x.f4 + x.f5 := by
        unfold inU at *
        rw [w64n (n := x.f2 + x.f3) (by omega) (by omega), w64n (n := x.f2 + x.f3 + x.f4) (by omega) (by omega), w64n (by omega) (by omega)]
      rw [hw]
      congr 1
      rw [Bool.eq_iff_iff, beq_iff_eq, decide_eq_true_eq]
      exact ⟨fun e => ⟨hn, h1, h2, h3, h4, h5, e⟩, fun e => e.2.2.2.2.2.2⟩
    · rw [if_pos]
      · rw [decide_eq_false (fun h => ho ⟨h.2.1, h.2.2.1, h.2.2.2.1, h.2.2.2.2.1, h.2.2.2.2.2.1⟩)]
      · simp only [List.any_cons, List.any_nil, Bool.or_false, Bool.or_eq_true, Bool.not_eq_true', decide_eq_false_iff_not]
        by_cases g1 : inU x.f1
        · by_cases g2 : inU x.f2
          · by_cases g3 : inU x.f3
            · by_cases g4 : inU x.f4
              · by_cases g5 : inU x.f5
                · exact absurd ⟨g1, g2, g3, g4, g5⟩ ho
                · simp [g5]
              · simp [g4]
            · simp [g3]
          · simp [g2]
        · simp [g1]
/-- What stock may be. -/
def Rt (l : List S32) : Prop := l.length ≤ 8 ∧ (∀ x ∈ l, mayR x) ∧ l.Pairwise (fun x y => sl x.f0 y.f0)
theorem right_tells (k : Nat) (hk : 20 ≤ k) (l : List S32) (hl : l.length ≤ 18) : ∃ b, stock_Right.f k l = some b ∧ (b = true ↔ Rt l) := by
  have key : ∀ (xs : List S32) (i : Nat), l.drop i = xs → ∃ b, stock_Right.r1 k l xs i = some b ∧ (b = true ↔ l.length ≤ 8 ∧ (∀ x ∈ xs, mayR x) ∧ ∀ (j : Nat) (x y : S32), i ≤ j + 1 → l[j]? = some x → l[j + 1]? = some y → sl x.f0 y.f0) := by
    intro xs
    induction xs with
    | nil =>
      intro i hi
      have hli := drop_nil_is hi
      rw [stock_Right.r1]
      refine ⟨_, rfl, ?_⟩
      rw [decide_eq_true_eq]
      exact ⟨fun h => ⟨by omega, by simp, fun j x y hj hx hy => by have := (List.getElem?_eq_some_iff.1 hy).1; omega⟩, fun h => by have := h.1; omega⟩
    | cons x xs ih =>
      intro i hi
      obtain ⟨hli, hx, hd⟩ := drop_cons_is hi
      obtain ⟨b, h1, h2⟩ := ih (i + 1) hd
      rw [stock_Right.r1, mayR_tells k hk, Option.bind_some]
      by_cases hm : mayR x
      · rw [if_pos (decide_eq_true hm)]
        rcases Nat.eq_zero_or_pos i with hi0 | hi0
        · subst hi0
          rw [if_neg (by omega)]
          refine ⟨b, h1, h2.trans ⟨fun h => ⟨h.1, fun y hy => ?_, fun j x y hj hx hy => h.2.2 j x y (by omega) hx hy⟩, fun h => ⟨h.1, fun y hy => h.2.1 y (by simp [hy]), fun j x y _ hx hy => h.2.2 j x y (by omega) hx hy⟩⟩⟩
          rcases List.mem_cons.1 hy with rfl | hy
          · exact hm
          · exact h.2.1 y hy
        · have hw : wrap64 ((i : Int) - 1) = ((i - 1 : Nat) : Int) := by unfold wrap64; omega
          have hp : l[i - 1]? = some l[i - 1] := List.getElem?_eq_getElem (by omega)
          rw [if_pos (by omega), hw, if_pos (by omega), Int.toNat_natCast, hp, Option.bind_some, bytesLess_is]
          by_cases hs : sl l[i - 1].f0 x.f0
          · rw [if_neg (by simp [hs])]
            refine ⟨b, h1, h2.trans ⟨fun h => ⟨h.1, fun y hy => ?_, fun j u v hj hu hv => ?_⟩, fun h => ⟨h.1, fun y hy => h.2.1 y (by simp [hy]), fun j x y _ hx hy => h.2.2 j x y (by omega) hx hy⟩⟩⟩
            · rcases List.mem_cons.1 hy with rfl | hy
              · exact hm
              · exact h.2.1 y hy
            · rcases Nat.lt_or_ge i (j + 1) with h3 | h3
              · exact h.2.2 j u v (by omega) hu hv
              · obtain rfl : i = j + 1 := by omega
                simp only [Nat.add_sub_cancel] at hs hp
                rw [hp] at hu
                obtain rfl := Option.some.inj hu
                rw [hx] at hv
                obtain rfl := Option.some.inj hv
                exact hs
          · rw [if_pos (by simp [hs])]
            refine ⟨false, rfl, ⟨(fun h => by cases h), fun h => absurd (h.2.2 (i - 1) _ x (by omega) hp (by rw [show i - 1 + 1 = i by omega]; exact hx)) hs⟩⟩
      · rw [if_neg (by simpa using hm)]
        exact ⟨false, rfl, ⟨(fun h => by cases h), fun h => absurd (h.2.1 x (by simp)) hm⟩⟩
  unfold stock_Right.f
  have := stock_Right.r1_eq k l (by omega) k 0 (by omega) (by omega)
  rw [show ((0 : Nat) : Int) = 0 from rfl, List.drop_zero] at this
  rw [this]
  obtain ⟨b, h1, h2⟩ := key l 0 rfl
  refine ⟨b, h1, h2.trans ⟨fun h => ⟨h.1, h.2.1, pw_of_adj (R := fun x y : S32 => sl x.f0 y.f0) (fun h1 h2 => sl_trans h1 h2) fun i x y hx hy => h.2.2 i x y (by omega) hx hy⟩, fun h => ⟨h.1, h.2.1, fun j x y _ hx hy => pw_get h.2.2 (Nat.lt_succ_self j) hx hy⟩⟩⟩
/-- Where a name stands, or would stand. -/
def at_ (s : ByteArray) (l : List S32) : Nat := (l.takeWhile (fun y => decide (sl y.f0 s))).length
theorem downs {l : List S32} (h : Rt l) (s : ByteArray) : Downs (fun y : S32 => decide (sl y.f0 s)) l := fun i j a b hij ha hb hp => by
  have := pw_get h.2.2 hij ha hb
  simp only [decide_eq_true_eq] at hp ⊢
  exact sl_trans this hp
theorem cmp_tells (x : S32) (s : ByteArray) : stock_at_1.f x.f0 x.f1 x.f2 x.f3 x.f4 x.f5 s = some (sc x.f0 s) := rfl
theorem atle (s : ByteArray) (l : List S32) : at_ s l ≤ l.length := tw_len_le _ l
theorem bsearch_tells (k : Nat) (s : ByteArray) (l : List S32) (h : Rt l) (hk2 : l.length < k) : slices_BinarySearchFunc_api_Row_api_Row_string.f k l s = some (((at_ s l : Nat) : Int), match l[at_ s l]? with | some x => decide (x.f0 = s) | none => false) := by
  have hd := downs h s
  have hle := atle s l
  have hl := h.1
  unfold at_ at *
  generalize hn : (l.takeWhile (fun y => decide (sl y.f0 s))).length = n at hle
  have key : ∀ (m i j : Nat), i ≤ n → n ≤ j → j ≤ l.length → j - i < m → slices_BinarySearchFunc_api_Row_api_Row_string.l1 k s l m (i : Int) (j : Int) = some ((n : Int), match l[n]? with | some x => decide (x.f0 = s) | none => false) := by
    intro m
    induction m with
    | zero => intro i j _ _ _ h; omega
    | succ m ih =>
      intro i j h1 h2 h3 h4
      rw [slices_BinarySearchFunc_api_Row_api_Row_string.l1]
      by_cases hij : i < j
      · have hm : (i + j) / 2 < l.length := by omega
        rw [if_pos (by omega), mid_is (by omega) (by omega), if_pos (by omega), Int.toNat_natCast, List.getElem?_eq_getElem hm, Option.bind_some, cmp_tells, Option.bind_some]
        by_cases hc : sc l[(i + j) / 2].f0 s < 0
        · rw [if_pos hc, show wrap64 ((((i + j) / 2 : Nat) : Int) + 1) = (((i + j) / 2 + 1 : Nat) : Int) by unfold wrap64; omega]
          refine ih _ _ ?_ h2 h3 (by omega)
          apply Nat.lt_of_not_le
          intro hge
          have := tw_ge hd (List.getElem?_eq_getElem hm) (by omega)
          rw [decide_eq_false_iff_not] at this
          exact this hc
        · rw [if_neg hc]
          refine ih _ _ h1 ?_ (by omega) (by omega)
          apply Nat.le_of_not_lt
          intro hlt
          have := tw_lt (fun y : S32 => decide (sl y.f0 s)) l _ _ (List.getElem?_eq_getElem hm) (by omega)
          exact hc (of_decide_eq_true this)
      · obtain rfl : i = n := by omega
        rw [if_neg (by omega)]
        by_cases hi : i < l.length
        · rw [if_pos (by omega), if_pos (by omega), Int.toNat_natCast, List.getElem?_eq_getElem hi, Option.bind_some, cmp_tells, Option.bind_some]
          simp only
          congr 2
          rw [Bool.eq_iff_iff, beq_iff_eq, decide_eq_true_eq]
          exact sc_eq
        · rw [if_neg (by omega), List.getElem?_eq_none (by omega)]
  unfold slices_BinarySearchFunc_api_Row_api_Row_string.f
  exact key k 0 l.length (Nat.zero_le _) hle (Nat.le_refl _) (by omega)
/-- Is there a row of a name? -/
inductive Find (s : ByteArray) (l : List S32) : Prop where
  | yes (x : S32) (h : l[at_ s l]? = some x) (e : x.f0 = s) : Find s l
  | no (h : ∀ x ∈ l, x.f0 ≠ s) : Find s l
theorem find_is {l : List S32} (h : Rt l) (s : ByteArray) : Find s l := by
  cases hx : l[at_ s l]? with
  | none =>
    refine .no fun x hx2 e => ?_
    have hn : at_ s l = l.length := by have := atle s l; have := List.getElem?_eq_none_iff.1 hx; omega
    obtain ⟨i, hi⟩ := List.getElem?_of_mem hx2
    have hil := (List.getElem?_eq_some_iff.1 hi).1
    have := tw_lt (fun y : S32 => decide (sl y.f0 s)) l i x hi (by unfold at_ at hn; omega)
    rw [decide_eq_true_eq, e] at this
    exact sl_irr _ this
  | some x =>
    by_cases e : x.f0 = s
    · exact .yes x hx e
    · refine .no fun y hy e2 => ?_
      obtain ⟨i, hi⟩ := List.getElem?_of_mem hy
      rcases Nat.lt_trichotomy i (at_ s l) with h1 | h1 | h1
      · have := tw_lt (fun y : S32 => decide (sl y.f0 s)) l i y hi h1
        rw [decide_eq_true_eq, e2] at this
        exact sl_irr _ this
      · rw [h1, hx] at hi
        obtain rfl := Option.some.inj hi
        exact e e2
      · have h2 := tw_at (fun y : S32 => decide (sl y.f0 s)) l x hx
        rw [decide_eq_false_iff_not] at h2
        have h3 := pw_get h.2.2 h1 hx hi
        rw [e2] at h3
        exact h2 h3
theorem at_tells (k : Nat) (s : ByteArray) (l : List S32) (h : Rt l) (hk2 : l.length < k) : stock_at.f k l s = some (((at_ s l : Nat) : Int), match l[at_ s l]? with | some x => decide (x.f0 = s) | none => false) := by
  unfold stock_at.f
  rw [bsearch_tells k s l h hk2]
  rfl
theorem at_yes {k : Nat} {s : ByteArray} {l : List S32} {x : S32} (h : Rt l) (hk2 : l.length < k) (hx : l[at_ s l]? = some x) (e : x.f0 = s) : stock_at.f k l s = some (((at_ s l : Nat) : Int), true) := by
  rw [at_tells k s l h hk2, hx]
  simp [e]
theorem at_no {k : Nat} {s : ByteArray} {l : List S32} (h : Rt l) (hk2 : l.length < k) (hn : ∀ x ∈ l, x.f0 ≠ s) : stock_at.f k l s = some (((at_ s l : Nat) : Int), false) := by
  rw [at_tells k s l h hk2]
  cases hx : l[at_ s l]? with
  | none => rfl
  | some x => simp [hn x (List.mem_of_getElem? hx)]
theorem clone_tells (l : List S32) (h : l.length ≤ 1000) : slices_Clone_api_Row_api_Row.f l = some l := by
  unfold slices_Clone_api_Row_api_Row.f
  rw [if_pos (by omega)]
abbrev E0 : ByteArray := ⟨#[]⟩
def shorts (l : List S32) : Prop := ∀ x ∈ l, x.f0.size ≤ 100
def mv (kind n : Int) (x : S32) : S32 := if kind = 1 then ⟨x.f0, x.f1, x.f2 - n, x.f3 + n, x.f4, x.f5⟩ else if kind = 2 then ⟨x.f0, x.f1, x.f2 + n, x.f3 - n, x.f4, x.f5⟩ else if kind = 3 then ⟨x.f0, x.f1, x.f2, x.f3 - n, x.f4 + n, x.f5⟩ else ⟨x.f0, x.f1, x.f2 - n, x.f3, x.f4, x.f5 + n⟩
def there (kind : Int) (x : S32) : Int := if kind = 2 ∨ kind = 3 then x.f3 else x.f2
theorem hold_bad {k : Nat} {s : ByteArray} {l : List S32} {n : Int} (hk : 20 ≤ k) (hl : l.length ≤ 18) (h : ¬ Rt l ∨ ¬ (1 ≤ n ∧ n ≤ 1073741824)) : stock_Hold.f k l s n = some ([], 1) := by
  obtain ⟨b, h1, h2⟩ := right_tells k hk l hl
  unfold stock_Hold.f stock_move.f
  rw [h1, Option.bind_some]
  by_cases hr : Rt l
  · obtain rfl : b = true := h2.2 hr
    rw [if_pos rfl, units_tells, Option.bind_some, if_neg (by rcases h with h | h; exact absurd hr h; simpa using h)]
    rfl
  · rw [if_neg (fun e => hr (h2.1 e))]
    rfl
theorem hold_no {k : Nat} {s : ByteArray} {l : List S32} {n : Int} (hk : 20 ≤ k) (h : Rt l) (hu : 1 ≤ n ∧ n ≤ 1073741824) (hn : ∀ x ∈ l, x.f0 ≠ s) : stock_Hold.f k l s n = some ([], 8) := by
  have hl := h.1
  obtain ⟨b, h1, h2⟩ := right_tells k hk l (by omega)
  obtain rfl : b = true := h2.2 h
  unfold stock_Hold.f stock_move.f
  rw [h1, Option.bind_some, if_pos rfl, units_tells, Option.bind_some, if_pos (decide_eq_true hu), at_no h (by omega) hn]
  rfl
theorem hold_yes {k : Nat} {s : ByteArray} {l : List S32} {n : Int} {x : S32} (hk : 20 ≤ k) (h : Rt l) (hu : 1 ≤ n ∧ n ≤ 1073741824) (hx : l[at_ s l]? = some x) (e : x.f0 = s) : stock_Hold.f k l s n = some (if x.f2 < n then ([], 11) else (l.set (at_ s l) (mv 1 n x), 0)) := by
  have hl := h.1
  obtain ⟨b, h1, h2⟩ := right_tells k hk l (by omega)
  obtain rfl : b = true := h2.2 h
  unfold stock_Hold.f stock_move.f
  rw [h1, Option.bind_some, if_pos rfl, units_tells, Option.bind_some, if_pos (decide_eq_true hu), at_yes h (by omega) hx e, Option.bind_some]
  simp only [if_true]
  rw [clone_tells l (by omega), Option.bind_some, if_pos (by omega), Int.toNat_natCast, hx, Option.bind_some, stock_Hold_1.f, Option.bind_some]
  by_cases hc : x.f2 < n
  · rw [if_pos hc, if_pos hc]
    rfl
  · obtain ⟨_, g1, g2, g3, g4, g5, _⟩ := h.2.1 x (List.mem_of_getElem? hx)
    unfold inU at *
    rw [if_neg hc, if_neg hc, List.set_set]
    simp only [Option.bind_some]
    rw [w64n (n := x.f2 - n) (by omega) (by omega), w64n (n := x.f3 + n) (by omega) (by omega)]
    rfl
theorem release_bad {k : Nat} {s : ByteArray} {l : List S32} {n : Int} (hk : 20 ≤ k) (hl : l.length ≤ 18) (h : ¬ Rt l ∨ ¬ (1 ≤ n ∧ n ≤ 1073741824)) : stock_Release.f k l s n = some ([], 1) := by
  obtain ⟨b, h1, h2⟩ := right_tells k hk l hl
  unfold stock_Release.f stock_move_s37.f
  rw [h1, Option.bind_some]
  by_cases hr : Rt l
  · obtain rfl : b = true := h2.2 hr
    rw [if_pos rfl, units_tells, Option.bind_some, if_neg (by rcases h with h | h; exact absurd hr h; simpa using h)]
    rfl
  · rw [if_neg (fun e => hr (h2.1 e))]
    rfl
theorem release_no {k : Nat} {s : ByteArray} {l : List S32} {n : Int} (hk : 20 ≤ k) (h : Rt l) (hu : 1 ≤ n ∧ n ≤ 1073741824) (hn : ∀ x ∈ l, x.f0 ≠ s) : stock_Release.f k l s n = some ([], 8) := by
  have hl := h.1
  obtain ⟨b, h1, h2⟩ := right_tells k hk l (by omega)
  obtain rfl : b = true := h2.2 h
  unfold stock_Release.f stock_move_s37.f
  rw [h1, Option.bind_some, if_pos rfl, units_tells, Option.bind_some, if_pos (decide_eq_true hu), at_no h (by omega) hn]
  rfl
theorem release_yes {k : Nat} {s : ByteArray} {l : List S32} {n : Int} {x : S32} (hk : 20 ≤ k) (h : Rt l) (hu : 1 ≤ n ∧ n ≤ 1073741824) (hx : l[at_ s l]? = some x) (e : x.f0 = s) : stock_Release.f k l s n = some (if x.f3 < n then ([], 11) else (l.set (at_ s l) (mv 2 n x), 0)) := by
  have hl := h.1
  obtain ⟨b, h1, h2⟩ := right_tells k hk l (by omega)
  obtain rfl : b = true := h2.2 h
  unfold stock_Release.f stock_move_s37.f
  rw [h1, Option.bind_some, if_pos rfl, units_tells, Option.bind_some, if_pos (decide_eq_true hu), at_yes h (by omega) hx e, Option.bind_some]
  simp only [if_true]
  rw [clone_tells l (by omega), Option.bind_some, if_pos (by omega), Int.toNat_natCast, hx, Option.bind_some, stock_Release_1.f, Option.bind_some]
  by_cases hc : x.f3 < n
  · rw [if_pos hc, if_pos hc]
    rfl
  · obtain ⟨_, g1, g2, g3, g4, g5, _⟩ := h.2.1 x (List.mem_of_getElem? hx)
    unfold inU at *
    rw [if_neg hc, if_neg hc, List.set_set]
    simp only [Option.bind_some]
    rw [w64n (n := x.f3 - n) (by omega) (by omega), w64n (n := x.f2 + n) (by omega) (by omega)]
    rfl
theorem ship_bad {k : Nat} {s : ByteArray} {l : List S32} {n : Int} (hk : 20 ≤ k) (hl : l.length ≤ 18) (h : ¬ Rt l ∨ ¬ (1 ≤ n ∧ n ≤ 1073741824)) : stock_Ship.f k l s n = some ([], 1) := by
  obtain ⟨b, h1, h2⟩ := right_tells k hk l hl
  unfold stock_Ship.f stock_move_s40.f
  rw [h1, Option.bind_some]
  by_cases hr : Rt l
  · obtain rfl : b = true := h2.2 hr
    rw [if_pos rfl, units_tells, Option.bind_some, if_neg (by rcases h with h | h; exact absurd hr h; simpa using h)]
    rfl
  · rw [if_neg (fun e => hr (h2.1 e))]
    rfl
theorem ship_no {k : Nat} {s : ByteArray} {l : List S32} {n : Int} (hk : 20 ≤ k) (h : Rt l) (hu : 1 ≤ n ∧ n ≤ 1073741824) (hn : ∀ x ∈ l, x.f0 ≠ s) : stock_Ship.f k l s n = some ([], 8) := by
  have hl := h.1
  obtain ⟨b, h1, h2⟩ := right_tells k hk l (by omega)
  obtain rfl : b = true := h2.2 h
  unfold stock_Ship.f stock_move_s40.f
  rw [h1, Option.bind_some, if_pos rfl, units_tells, Option.bind_some, if_pos (decide_eq_true hu), at_no h (by omega) hn]
  rfl
theorem ship_yes {k : Nat} {s : ByteArray} {l : List S32} {n : Int} {x : S32} (hk : 20 ≤ k) (h : Rt l) (hu : 1 ≤ n ∧ n ≤ 1073741824) (hx : l[at_ s l]? = some x) (e : x.f0 = s) : stock_Ship.f k l s n = some (if x.f3 < n then ([], 11) else (l.set (at_ s l) (mv 3 n x), 0)) := by
  have hl := h.1
  obtain ⟨b, h1, h2⟩ := right_tells k hk l (by omega)
  obtain rfl : b = true := h2.2 h
  unfold stock_Ship.f stock_move_s40.f
  rw [h1, Option.bind_some, if_pos rfl, units_tells, Option.bind_some, if_pos (decide_eq_true hu), at_yes h (by omega) hx e, Option.bind_some]
  simp only [if_true]
  rw [clone_tells l (by omega), Option.bind_some, if_pos (by omega), Int.toNat_natCast, hx, Option.bind_some, stock_Ship_1.f, Option.bind_some]
  by_cases hc : x.f3 < n
  · rw [if_pos hc, if_pos hc]
    rfl
  · obtain ⟨_, g1, g2, g3, g4, g5, _⟩ := h.2.1 x (List.mem_of_getElem? hx)
    unfold inU at *
    rw [if_neg hc, if_neg hc, List.set_set]
    simp only [Option.bind_some]
    rw [w64n (n := x.f3 - n) (by omega) (by omega), w64n (n := x.f4 + n) (by omega) (by omega)]
    rfl
theorem lose_bad {k : Nat} {s : ByteArray} {l : List S32} {n : Int} (hk : 20 ≤ k) (hl : l.length ≤ 18) (h : ¬ Rt l ∨ ¬ (1 ≤ n ∧ n ≤ 1073741824)) : stock_Lose.f k l s n = some ([], 1) := by
  obtain ⟨b, h1, h2⟩ := right_tells k hk l hl
  unfold stock_Lose.f stock_move_s43.f
  rw [h1, Option.bind_some]
  by_cases hr : Rt l
  · obtain rfl : b = true := h2.2 hr
    rw [if_pos rfl, units_tells, Option.bind_some, if_neg (by rcases h with h | h; exact absurd hr h; simpa using h)]
    rfl
  · rw [if_neg (fun e => hr (h2.1 e))]
    rfl
theorem lose_no {k : Nat} {s : ByteArray} {l : List S32} {n : Int} (hk : 20 ≤ k) (h : Rt l) (hu : 1 ≤ n ∧ n ≤ 1073741824) (hn : ∀ x ∈ l, x.f0 ≠ s) : stock_Lose.f k l s n = some ([], 8) := by
  have hl := h.1
  obtain ⟨b, h1, h2⟩ := right_tells k hk l (by omega)
  obtain rfl : b = true := h2.2 h
  unfold stock_Lose.f stock_move_s43.f
  rw [h1, Option.bind_some, if_pos rfl, units_tells, Option.bind_some, if_pos (decide_eq_true hu), at_no h (by omega) hn]
  rfl
theorem lose_yes {k : Nat} {s : ByteArray} {l : List S32} {n : Int} {x : S32} (hk : 20 ≤ k) (h : Rt l) (hu : 1 ≤ n ∧ n ≤ 1073741824) (hx : l[at_ s l]? = some x) (e : x.f0 = s) : stock_Lose.f k l s n = some (if x.f2 < n then ([], 11) else (l.set (at_ s l) (mv 4 n x), 0)) := by
  have hl := h.1
  obtain ⟨b, h1, h2⟩ := right_tells k hk l (by omega)
  obtain rfl : b = true := h2.2 h
  unfold stock_Lose.f stock_move_s43.f
  rw [h1, Option.bind_some, if_pos rfl, units_tells, Option.bind_some, if_pos (decide_eq_true hu), at_yes h (by omega) hx e, Option.bind_some]
  simp only [if_true]
  rw [clone_tells l (by omega), Option.bind_some, if_pos (by omega), Int.toNat_natCast, hx, Option.bind_some, stock_Lose_1.f, Option.bind_some]
  by_cases hc : x.f2 < n
  · rw [if_pos hc, if_pos hc]
    rfl
  · obtain ⟨_, g1, g2, g3, g4, g5, _⟩ := h.2.1 x (List.mem_of_getElem? hx)
    unfold inU at *
    rw [if_neg hc, if_neg hc, List.set_set]
    simp only [Option.bind_some]
    rw [w64n (n := x.f2 - n) (by omega) (by omega), w64n (n := x.f5 + n) (by omega) (by omega)]
    rfl
theorem at_map (s : ByteArray) (l : List S32) : at_ s l = ((l.map (·.f0)).takeWhile (fun y => decide (sl y s))).length := by
  unfold at_
  induction l with
  | nil => rfl
  | cons x xs ih =>
    rw [List.map_cons, List.takeWhile_cons, List.takeWhile_cons]
    split <;> simp [ih]
theorem names_set {l : List S32} {i : Nat} {x y : S32} (hx : l[i]? = some x) (e : y.f0 = x.f0) : (l.set i y).map (·.f0) = l.map (·.f0) := by
  apply List.ext_getElem?
  intro j
  rw [List.getElem?_map, List.getElem?_map, List.getElem?_set]
  split
  · rename_i h
    subst h
    rw [if_pos (List.getElem?_eq_some_iff.1 hx).1, hx]
    simp [e]
  · rfl
theorem at_set {l : List S32} {i : Nat} {x y : S32} (hx : l[i]? = some x) (e : y.f0 = x.f0) (s : ByteArray) : at_ s (l.set i y) = at_ s l := by rw [at_map, names_set hx e, at_map]
theorem Rt_set {l : List S32} {i : Nat} {x y : S32} (h : Rt l) (hx : l[i]? = some x) (e : y.f0 = x.f0) (hy : mayR y) : Rt (l.set i y) := by
  refine ⟨by rw [List.length_set]; exact h.1, fun z hz => ?_, ?_⟩
  · rcases List.mem_or_eq_of_mem_set hz with hz | rfl
    · exact h.2.1 z hz
    · exact hy
  · have h2 := h.2.2
    rw [← List.pairwise_map (f := fun x : S32 => x.f0) (R := sl)] at h2 ⊢
    rw [names_set hx e]
    exact h2
theorem mv_name (q n : Int) (x : S32) : (mv q n x).f0 = x.f0 := by unfold mv; (repeat' split) <;> rfl
theorem mv_may {q n : Int} {x : S32} (hm : mayR x) (hn : 1 ≤ n) (ht : ¬ there q x < n) : mayR (mv q n x) := by
  obtain ⟨g0, g1, g2, g3, g4, g5, g6⟩ := hm
  unfold there at ht
  unfold mv
  unfold mayR inU at *
  by_cases q1 : q = 1
  · subst q1; simp at ht ⊢; refine ⟨g0, ?_, ?_, ?_, ?_, ?_, ?_⟩ <;> omega
  · by_cases q2 : q = 2
    · subst q2; simp at ht ⊢; refine ⟨g0, ?_, ?_, ?_, ?_, ?_, ?_⟩ <;> omega
    · by_cases q3 : q = 3
      · subst q3; simp at ht ⊢; refine ⟨g0, ?_, ?_, ?_, ?_, ?_, ?_⟩ <;> omega
      · simp [q1, q2, q3] at ht ⊢; refine ⟨g0, ?_, ?_, ?_, ?_, ?_, ?_⟩ <;> omega
def got (n : Int) (x : S32) : S32 := ⟨x.f0, x.f1 + n, x.f2 + n, x.f3, x.f4, x.f5⟩
def put_ (x : S32) (l : List S32) : List S32 := l.take (at_ x.f0 l) ++ [x] ++ l.drop (at_ x.f0 l)
theorem set_mid {α : Type} (l : List α) (i : Nat) (a b : α) (hi : i ≤ l.length) : (l.take i ++ [a] ++ l.drop i).set i b = l.take i ++ [b] ++ l.drop i ∧ (l.take i ++ [a] ++ l.drop i)[i]? = some a := by
  have h : (l.take i).length = i := by rw [List.length_take]; omega
  constructor
  · rw [List.append_assoc, List.set_append_right _ _ (by omega), h, Nat.sub_self, List.append_assoc]
    rfl
  · rw [List.append_assoc, List.getElem?_append_right (by omega), h, Nat.sub_self]
    rfl
theorem receive_bad {k : Nat} {s : ByteArray} {l : List S32} {n : Int} (hk : 20 ≤ k) (hl : l.length ≤ 18) (h : ¬ Rt l ∨ ¬ (1 ≤ n ∧ n ≤ 1073741824) ∨ nm s = false) : stock_Receive.f k l s n = some ([], 1) := by
  obtain ⟨b, h1, h2⟩ := right_tells k hk l hl
  unfold stock_Receive.f
  rw [h1, Option.bind_some]
  by_cases hr : Rt l
  · obtain rfl : b = true := h2.2 hr
    rw [if_pos rfl, units_tells, Option.bind_some]
    by_cases hu : 1 ≤ n ∧ n ≤ 1073741824
    · rw [if_pos (decide_eq_true hu), sname_tells k hk, Option.bind_some, if_neg]
      rcases h with h | h | h
      · exact absurd hr h
      · exact absurd hu h
      · simp [h]
    · rw [if_neg (by simpa using hu)]
  · rw [if_neg (fun e => hr (h2.1 e))]
theorem receive_yes {k : Nat} {s : ByteArray} {l : List S32} {n : Int} {x : S32} (hk : 20 ≤ k) (h : Rt l) (hu : 1 ≤ n ∧ n ≤ 1073741824) (hx : l[at_ s l]? = some x) (e : x.f0 = s) : stock_Receive.f k l s n = some (if x.f1 + n > 1073741824 then ([], 2) else (l.set (at_ s l) (got n x), 0)) := by
  have hl := h.1
  obtain ⟨b, h1, h2⟩ := right_tells k hk l (by omega)
  obtain rfl : b = true := h2.2 h
  obtain ⟨g0, g1, g2, g3, g4, g5, g6⟩ := h.2.1 x (List.mem_of_getElem? hx)
  unfold stock_Receive.f
  rw [h1, Option.bind_some, if_pos rfl, units_tells, Option.bind_some, if_pos (decide_eq_true hu), sname_tells k hk, Option.bind_some, if_pos (by rw [← e]; exact g0), at_yes h (by omega) hx e, Option.bind_some]
  simp only
  rw [clone_tells l (by omega), Option.bind_some]
  simp only [if_true]
  have hil := (List.getElem?_eq_some_iff.1 hx).1
  rw [if_pos (by omega), Int.toNat_natCast, hx, Option.bind_some, w64n (n := 1073741824 - n) (by omega) (by omega)]
  by_cases hc : x.f1 + n > 1073741824
  · rw [if_pos (by omega), if_pos hc]
  · unfold inU at *
    rw [if_neg (by omega), if_neg hc]
    simp only [Option.bind_some, List.getElem?_set_self hil, List.set_set]
    rw [w64n (n := x.f1 + n) (by omega) (by omega), w64n (n := x.f2 + n) (by omega) (by omega)]
    rfl
theorem receive_new {k : Nat} {s : ByteArray} {l : List S32} {n : Int} (hk : 20 ≤ k) (h : Rt l) (hu : 1 ≤ n ∧ n ≤ 1073741824) (hs : nm s = true) (hn : ∀ x ∈ l, x.f0 ≠ s) : stock_Receive.f k l s n = some (if l.length = 8 then ([], 7) else (put_ ⟨s, n, n, 0, 0, 0⟩ l, 0)) := by
  have hl := h.1
  have hle := atle s l
  obtain ⟨b, h1, h2⟩ := right_tells k hk l (by omega)
  obtain rfl : b = true := h2.2 h
  unfold stock_Receive.f
  rw [h1, Option.bind_some, if_pos rfl, units_tells, Option.bind_some, if_pos (decide_eq_true hu), sname_tells k hk, Option.bind_some, if_pos hs, at_no h (by omega) hn, Option.bind_some]
  simp only
  rw [clone_tells l (by omega), Option.bind_some, if_neg (by simp)]
  by_cases h8 : l.length = 8
  · rw [if_pos (by omega), if_pos h8]
  · rw [if_neg (by omega), if_neg h8]
    unfold slices_Insert_api_Row_api_Row.f
    rw [if_pos ⟨by omega, by omega, by simp; omega⟩, Option.bind_some, if_pos (by omega), Int.toNat_natCast, (set_mid l (at_ s l) _ ⟨s, 0, 0, 0, 0, 0⟩ hle).2, Option.bind_some, w64n (n := 1073741824 - n) (by omega) (by omega), if_neg (by simp; omega)]
    have hil : at_ s l < (l.take (at_ s l) ++ [(⟨s, 0, 0, 0, 0, 0⟩ : S32)] ++ l.drop (at_ s l)).length := (List.getElem?_eq_some_iff.1 (set_mid l (at_ s l) _ ⟨s, 0, 0, 0, 0, 0⟩ hle).2).1
    simp only [fun a b => (set_mid l (at_ s l) a b hle).1, fun a => (set_mid l (at_ s l) a a hle).2, Option.bind_some]
    rw [w64n (n := 0 + n) (by omega) (by omega), Int.zero_add]
    rfl
theorem does_bad {k : Nat} {s : ByteArray} {l : List S32} {n q : Int} (hk : 20 ≤ k) (hq : 1 ≤ q ∧ q ≤ 4) (hl : l.length ≤ 18) (h : ¬ Rt l ∨ ¬ (1 ≤ n ∧ n ≤ 1073741824)) : tarrylaw08_does.f k l s n q = some ([], 1) := by
  unfold tarrylaw08_does.f
  rw [hold_bad hk hl h, release_bad hk hl h, ship_bad hk hl h, lose_bad hk hl h]
  simp only [Option.bind_some]
  (repeat' split) <;> rfl
theorem does_no {k : Nat} {s : ByteArray} {l : List S32} {n q : Int} (hk : 20 ≤ k) (h : Rt l) (hu : 1 ≤ n ∧ n ≤ 1073741824) (hn : ∀ x ∈ l, x.f0 ≠ s) : tarrylaw08_does.f k l s n q = some ([], 8) := by
  unfold tarrylaw08_does.f
  rw [hold_no hk h hu hn, release_no hk h hu hn, ship_no hk h hu hn, lose_no hk h hu hn]
  simp only [Option.bind_some]
  (repeat' split) <;> rfl
theorem does_yes {k : Nat} {s : ByteArray} {l : List S32} {n q : Int} {x : S32} (hk : 20 ≤ k) (hq : 1 ≤ q ∧ q ≤ 4) (h : Rt l) (hu : 1 ≤ n ∧ n ≤ 1073741824) (hx : l[at_ s l]? = some x) (e : x.f0 = s) : tarrylaw08_does.f k l s n q = some (if there q x < n then ([], 11) else (l.set (at_ s l) (mv q n x), 0)) := by
  unfold tarrylaw08_does.f
  rw [hold_yes hk h hu hx e, release_yes hk h hu hx e, ship_yes hk h hu hx e, lose_yes hk h hu hx e]
  simp only [Option.bind_some]
  unfold there
  by_cases q1 : q = 1
  · subst q1; simp
  · by_cases q2 : q = 2
    · subst q2; simp
    · by_cases q3 : q = 3
      · subst q3; simp
      · obtain rfl : q = 4 := by omega
        simp [mv]
theorem before {l : List S32} {s : ByteArray} : ∀ y ∈ l.take (at_ s l), sl y.f0 s := by
  intro y hy
  unfold at_ at hy
  rw [take_tw] at hy
  exact of_decide_eq_true (mem_tw (p := fun y : S32 => decide (sl y.f0 s)) hy)
theorem behind {l : List S32} (h : Rt l) {s : ByteArray} : ∀ y ∈ l.drop (at_ s l), ¬ sl y.f0 s := by
  intro y hy
  unfold at_ at hy
  rw [drop_tw] at hy
  have := mem_dw (downs h s) hy
  rwa [decide_eq_false_iff_not] at this
theorem split_at {l : List S32} {i : Nat} {x : S32} (hx : l[i]? = some x) : l = l.take i ++ x :: l.drop (i + 1) := by
  obtain ⟨h1, rfl⟩ := List.getElem?_eq_some_iff.1 hx
  rw [← List.drop_eq_getElem_cons h1, List.take_append_drop]

theorem cut_tells (s : ByteArray) : 0 ≤ mn (s.size : Int) 18 ∧ mn (s.size : Int) 18 ≤ (s.size : Int) ∧ (s.extract 0 ((mn (s.size : Int) 18).toNat)).size ≤ 18 := by
  have e : mn (s.size : Int) 18 = ((min s.size 18 : Nat) : Int) := by unfold mn; split <;> omega
  rw [e]
  refine ⟨by omega, by omega, ?_⟩
  rw [Int.toNat_natCast, ByteArray.size_extract]
  omega
theorem alive_tells : tarrylaw08_alive.f 200 = some true := by decide +kernel

/-! ### lists of pairs -/
theorem mget_mset {K V : Type} [BEq K] [LawfulBEq K] [DecidableEq K] (k k' : K) (v d : V) : ∀ m : List (K × V), mget (mset m k v) k' d = if k' = k then v else mget m k' d
  | [] => by
    rw [mset]
    show (if (k' == k) = true then v else mget [] k' d) = if k' = k then v else mget [] k' d
    by_cases h : k' = k
    · rw [if_pos h, if_pos (beq_iff_eq.2 h)]
    · rw [if_neg h, if_neg (fun q => h (eq_of_beq q))]
  | e :: m => by
    rw [mset]
    by_cases h : (k == e.1) = true
    · have h2 : k = e.1 := eq_of_beq h
      rw [if_pos h, mget, mget]
      simp only [beq_iff_eq]
      by_cases h3 : k' = k
      · rw [if_pos h3, if_pos h3]
      · rw [if_neg h3, if_neg h3, if_neg (by rw [← h2]; exact h3)]
    · have h2 : k ≠ e.1 := fun q => h (beq_iff_eq.2 q)
      rw [if_neg h, mget, mget, mget_mset k k' v d m]
      simp only [beq_iff_eq]
      by_cases h3 : k' = e.1
      · rw [if_pos h3, if_pos h3, if_neg (by rw [h3]; exact fun q => h2 q.symm)]
      · rw [if_neg h3, if_neg h3]
theorem mem_keys_mset {K V : Type} [BEq K] [LawfulBEq K] (k : K) (v : V) (z : K) : ∀ m : List (K × V), z ∈ (mset m k v).map (·.1) ↔ z = k ∨ z ∈ m.map (·.1)
  | [] => by simp [mset]
  | e :: m => by
    rw [mset]
    by_cases h : (k == e.1) = true
    · have h2 : k = e.1 := eq_of_beq h
      rw [if_pos h]
      simp only [List.map_cons, List.mem_cons, ← h2]
      grind
    · rw [if_neg h]
      simp only [List.map_cons, List.mem_cons, mem_keys_mset k v z m]
      grind
theorem keys_mset {K V : Type} [BEq K] [LawfulBEq K] (k : K) (v : V) : ∀ m : List (K × V), (m.map (·.1)).Nodup → ((mset m k v).map (·.1)).Nodup
  | [], _ => by simp [mset]
  | e :: m, h => by
    rw [List.map_cons, List.nodup_cons] at h
    rw [mset]
    by_cases hb : (k == e.1) = true
    · have h2 : k = e.1 := eq_of_beq hb
      rw [if_pos hb, List.map_cons, List.nodup_cons]
      exact ⟨by simpa [h2] using h.1, h.2⟩
    · have h2 : k ≠ e.1 := fun q => hb (beq_iff_eq.2 q)
      rw [if_neg hb, List.map_cons, List.nodup_cons]
      refine ⟨fun h3 => ?_, keys_mset k v m h.2⟩
      rcases (mem_keys_mset k v e.1 m).1 h3 with h4 | h4
      · exact h2 h4.symm
      · exact h.1 h4
theorem mget_mem {K V : Type} [BEq K] [LawfulBEq K] (d : V) : ∀ (m : List (K × V)), (m.map (·.1)).Nodup → ∀ e ∈ m, mget m e.1 d = e.2
  | [], _, e, h => by cases h
  | e' :: m, hn, e, h => by
    rw [List.map_cons, List.nodup_cons] at hn
    rw [mget]
    rcases List.mem_cons.1 h with rfl | h
    · rw [if_pos (by simp)]
    · have : e.1 ≠ e'.1 := fun q => hn.1 (by rw [← q]; exact List.mem_map_of_mem h)
      rw [if_neg (by simpa using this), mget_mem d m hn.2 e h]
theorem mget_none {K V : Type} [BEq K] [LawfulBEq K] (d : V) (k : K) : ∀ (m : List (K × V)), k ∉ m.map (·.1) → mget m k d = d
  | [], _ => rfl
  | e :: m, h => by
    rw [List.map_cons, List.mem_cons, not_or] at h
    rw [mget, if_neg (by simpa using h.1), mget_none d k m h.2]
theorem len_mset {K V : Type} [BEq K] [LawfulBEq K] [DecidableEq K] (k : K) (v : V) : ∀ m : List (K × V), (mset m k v).length = if k ∈ m.map (·.1) then m.length else m.length + 1
  | [] => by simp [mset]
  | e :: m => by
    rw [mset]
    by_cases h : (k == e.1) = true
    · have h2 : k = e.1 := eq_of_beq h
      rw [if_pos h, if_pos (by simp [h2])]
      rfl
    · have h2 : k ≠ e.1 := fun q => h (beq_iff_eq.2 q)
      rw [if_neg h, List.length_cons, len_mset k v m, List.map_cons, List.length_cons]
      by_cases h3 : k ∈ m.map (·.1)
      · rw [if_pos h3, if_pos (List.mem_cons_of_mem _ h3)]
      · rw [if_neg h3, if_neg (by rw [List.mem_cons, not_or]; exact ⟨h2, h3⟩)]
theorem sub_mdel {K V : Type} [BEq K] (k : K) : ∀ m : List (K × V), (mdel m k).Sublist m
  | [] => List.Sublist.refl _
  | e :: m => by
    rw [mdel]
    split
    · exact List.sublist_cons_self _ _
    · exact (sub_mdel k m).cons_cons _
theorem keys_mdel {K V : Type} [BEq K] (k : K) (m : List (K × V)) (h : (m.map (·.1)).Nodup) : ((mdel m k).map (·.1)).Nodup := h.sublist ((sub_mdel k m).map _)
theorem mem_keys_mdel {K V : Type} [BEq K] [LawfulBEq K] (k z : K) : ∀ m : List (K × V), (m.map (·.1)).Nodup → (z ∈ (mdel m k).map (·.1) ↔ z ≠ k ∧ z ∈ m.map (·.1))
  | [], _ => by simp [mdel]
  | e :: m, hn => by
    rw [List.map_cons, List.nodup_cons] at hn
    rw [mdel]
    by_cases h : (k == e.1) = true
    · have h2 : k = e.1 := eq_of_beq h
      rw [if_pos h, List.map_cons, List.mem_cons]
      constructor
      · intro h3
        exact ⟨fun q => hn.1 (by rw [← h2, ← q]; exact h3), .inr h3⟩
      · rintro ⟨h3, h4 | h4⟩
        · exact absurd (h4.trans h2.symm) h3
        · exact h4
    · have h2 : k ≠ e.1 := fun q => h (beq_iff_eq.2 q)
      rw [if_neg h, List.map_cons, List.mem_cons, mem_keys_mdel k z m hn.2, List.map_cons, List.mem_cons]
      constructor
      · rintro (h3 | h3)
        · exact ⟨fun q => h2 (q.symm.trans h3), .inl h3⟩
        · exact ⟨h3.1, .inr h3.2⟩
      · rintro ⟨h3, h4 | h4⟩
        · exact .inl h4
        · exact .inr ⟨h3, h4⟩
theorem mget_mdel {K V : Type} [BEq K] [LawfulBEq K] [DecidableEq K] (k k' : K) (d : V) : ∀ m : List (K × V), (m.map (·.1)).Nodup → mget (mdel m k) k' d = if k' = k then d else mget m k' d
  | [], _ => by
    rw [mdel, mget]
    simp
  | e :: m, hn => by
    rw [List.map_cons, List.nodup_cons] at hn
    rw [mdel]
    by_cases h : (k == e.1) = true
    · have h2 : k = e.1 := eq_of_beq h
      rw [if_pos h]
      by_cases h3 : k' = k
      · rw [if_pos h3, mget_none d k' m (by rw [h3, h2]; exact hn.1)]
      · rw [if_neg h3, mget, if_neg (by rw [← h2]; simpa using h3)]
    · have h2 : k ≠ e.1 := fun q => h (beq_iff_eq.2 q)
      rw [if_neg h, mget, mget, mget_mdel k k' d m hn.2]
      by_cases h3 : (k' == e.1) = true
      · have h4 : k' = e.1 := eq_of_beq h3
        rw [if_pos h3, if_pos h3, if_neg (by rw [h4]; exact fun q => h2 q.symm)]
      · rw [if_neg h3, if_neg h3]
theorem len_mdel {K V : Type} [BEq K] [LawfulBEq K] (k : K) : ∀ m : List (K × V), k ∈ m.map (·.1) → (mdel m k).length + 1 = m.length
  | [], h => by simp at h
  | e :: m, h => by
    rw [mdel]
    by_cases hb : (k == e.1) = true
    · rw [if_pos hb]
      rfl
    · have h2 : k ≠ e.1 := fun q => hb (beq_iff_eq.2 q)
      rw [List.map_cons, List.mem_cons] at h
      rcases h with h | h
      · exact absurd h h2
      · rw [if_neg hb, List.length_cons, len_mdel k m h, List.length_cons]
instance : LawfulBEq ByteArray := ba_lawful
theorem name_ne {l : List S32} (h : Rt l) {i j : Nat} {x y : S32} (hij : i ≠ j) (hx : l[i]? = some x) (hy : l[j]? = some y) : x.f0 ≠ y.f0 := by
  intro e
  rcases Nat.lt_or_ge i j with h1 | h1
  · have := pw_get h.2.2 h1 hx hy
    rw [e] at this
    exact sl_irr _ this
  · have := pw_get h.2.2 (show j < i by omega) hy hx
    rw [e] at this
    exact sl_irr _ this
/-- What holds as time goes on. -/
structure Kp (l : List S32) (gone lost came : List (ByteArray × Int)) : Prop where
  right : Rt l
  rows : ∀ x ∈ l, x.f1 = mget came x.f0 0 ∧ x.f4 = mget gone x.f0 0 ∧ x.f5 = mget lost x.f0 0
  none : ∀ s, (∀ x ∈ l, x.f0 ≠ s) → mget gone s 0 = 0 ∧ mget lost s 0 = 0
  keys : (came.map (·.1)).Nodup
  mem : ∀ s, s ∈ came.map (·.1) ↔ ∃ x ∈ l, x.f0 = s
theorem names_nodup {l : List S32} (h : Rt l) : (l.map (·.f0)).Nodup := by
  rw [List.nodup_iff_pairwise_ne, List.pairwise_map]
  exact h.2.2.imp fun {a b} h e => by rw [e] at h; exact sl_irr _ h
theorem Kp.len {l : List S32} {gone lost came : List (ByteArray × Int)} (h : Kp l gone lost came) : l.length = came.length := by
  have hp : (l.map (·.f0)).Perm (came.map (·.1)) := (List.perm_ext_iff_of_nodup (names_nodup h.right) h.keys).2 fun s => by
    rw [h.mem, List.mem_map]
  have := hp.length_eq
  simpa using this
theorem end_ok (l : List S32) (gone lost came : List (ByteArray × Int)) (h : Kp l gone lost came) : tarrylaw08_StockKeeps.j18 200 l gone lost came = some true := by
  have hl := h.right.1
  have key : ∀ xs : List S32, (∀ x ∈ xs, x ∈ l) → tarrylaw08_StockKeeps.r23 200 l gone lost came xs = some true := by
    intro xs
    induction xs with
    | nil =>
      intro _
      rw [tarrylaw08_StockKeeps.r23, alive_tells, Option.bind_some, if_pos rfl, h.len]
      simp
    | cons x xs ih =>
      intro hx
      have hxl := hx x (by simp)
      obtain ⟨r1, r2, r3⟩ := h.rows x hxl
      obtain ⟨_, g1, g2, g3, g4, g5, g6⟩ := h.right.2.1 x hxl
      unfold inU at *
      rw [tarrylaw08_StockKeeps.r23, if_pos r1, if_pos r2, if_pos r3, w64n (n := x.f2 + x.f3) (by omega) (by omega), w64n (n := x.f1 - x.f4) (by omega) (by omega), w64n (n := x.f1 - x.f4 - x.f5) (by omega) (by omega), if_pos (by omega), if_neg (by omega), if_neg (by omega)]
      exact ih fun y hy => hx y (by simp [hy])
  unfold tarrylaw08_StockKeeps.j18
  have h2 := tarrylaw08_StockKeeps.r23_eq 200 l gone lost came (by omega) 200 0 (by omega) (by omega)
  rw [show ((0 : Nat) : Int) = 0 from rfl, List.drop_zero] at h2
  rw [h2]
  exact key l (fun _ h => h)
/-- A row is another of the same name. -/
theorem Kp.set {l : List S32} {gone lost came gone' lost' came' : List (ByteArray × Int)} (h : Kp l gone lost came) {i : Nat} {x y : S32} (hx : l[i]? = some x) (e : y.f0 = x.f0) (hy : mayR y)
    (h1 : y.f1 = mget came' y.f0 0 ∧ y.f4 = mget gone' y.f0 0 ∧ y.f5 = mget lost' y.f0 0) (h2 : ∀ s, s ≠ y.f0 → mget came' s 0 = mget came s 0 ∧ mget gone' s 0 = mget gone s 0 ∧ mget lost' s 0 = mget lost s 0)
    (hk : (came'.map (·.1)).Nodup) (hm : ∀ s, s ∈ came'.map (·.1) ↔ s = y.f0 ∨ s ∈ came.map (·.1)) : Kp (l.set i y) gone' lost' came' := by
  have hil := (List.getElem?_eq_some_iff.1 hx).1
  have hxm := List.mem_of_getElem? hx
  have hnm : ∀ s, (∃ z ∈ l.set i y, z.f0 = s) ↔ ∃ z ∈ l, z.f0 = s := by
    intro s
    have := names_set hx e
    have h3 : s ∈ (l.set i y).map (·.f0) ↔ s ∈ l.map (·.f0) := by rw [this]
    rw [List.mem_map, List.mem_map] at h3
    exact h3
  refine ⟨Rt_set h.right hx e hy, fun z hz => ?_, fun s hs => ?_, hk, fun s => ?_⟩
  · obtain ⟨j, hj⟩ := List.getElem?_of_mem hz
    rw [List.getElem?_set] at hj
    by_cases hij : i = j
    · rw [if_pos hij, if_pos (by omega)] at hj
      obtain rfl := Option.some.inj hj
      exact h1
    · rw [if_neg hij] at hj
      have hne : z.f0 ≠ y.f0 := by
        rw [e]
        exact fun q => name_ne h.right hij hx hj q.symm
      obtain ⟨a1, a2, a3⟩ := h2 z.f0 hne
      rw [a1, a2, a3]
      exact h.rows z (List.mem_of_getElem? hj)
  · have hs2 : ∀ z ∈ l, z.f0 ≠ s := fun z hz q => by
      obtain ⟨z2, hz2, q2⟩ := (hnm s).2 ⟨z, hz, q⟩
      exact hs z2 hz2 q2
    have hne : s ≠ y.f0 := by rw [e]; exact fun q => hs2 x hxm q.symm
    obtain ⟨_, a2, a3⟩ := h2 s hne
    rw [a2, a3]
    exact h.none s hs2
  · rw [hm, hnm, h.mem]
    constructor
    · rintro (rfl | h3)
      · exact ⟨x, hxm, e.symm⟩
      · exact h3
    · exact .inr
theorem Rt_put {l : List S32} {s : ByteArray} {n : Int} (h : Rt l) (hs : nm s = true) (hn : ∀ x ∈ l, x.f0 ≠ s) (hu : 1 ≤ n ∧ n ≤ 1073741824) (hl : l.length ≠ 8) : Rt (put_ ⟨s, n, n, 0, 0, 0⟩ l) := by
  have hl8 := h.1
  have ha := atle s l
  unfold put_
  simp only
  refine ⟨?_, fun x hx => ?_, ?_⟩
  · rw [List.length_append, List.length_append, List.length_take, List.length_drop, List.length_singleton]
    omega
  · simp only [List.mem_append, List.mem_singleton] at hx
    rcases hx with (hx | rfl) | hx
    · exact h.2.1 x (List.take_subset _ _ hx)
    · refine ⟨hs, ?_, ?_, ?_, ?_, ?_, ?_⟩ <;> (try unfold inU) <;> simp <;> omega
    · exact h.2.1 x (List.drop_subset _ _ hx)
  · have hp : (l.take (at_ s l) ++ l.drop (at_ s l)).Pairwise (fun x y => sl x.f0 y.f0) := by rw [List.take_append_drop]; exact h.2.2
    rw [List.pairwise_append] at hp
    rw [List.append_assoc, List.pairwise_append]
    refine ⟨hp.1, ?_, fun a ha2 b hb => ?_⟩
    · rw [List.singleton_append, List.pairwise_cons]
      exact ⟨fun b hb => sl_tri (behind h b hb) (hn b (List.drop_subset _ _ hb)), hp.2.1⟩
    · rcases List.mem_append.1 hb with hb | hb
      · obtain rfl := List.mem_singleton.1 hb
        exact before a ha2
      · exact hp.2.2 a ha2 b hb
theorem mem_put {x y : S32} {l : List S32} : y ∈ put_ x l ↔ y = x ∨ y ∈ l := by
  unfold put_
  have : y ∈ l ↔ y ∈ l.take (at_ x.f0 l) ∨ y ∈ l.drop (at_ x.f0 l) := by
    rw [← List.mem_append, List.take_append_drop]
  rw [this]
  simp only [List.mem_append, List.mem_singleton]
  grind
theorem does0 (k : Nat) (l : List S32) (s : ByteArray) (n : Int) : tarrylaw08_does.f k l s n 0 = tarrylaw08_does.f k l s n 4 := by
  unfold tarrylaw08_does.f
  rw [if_neg (by decide), if_neg (by decide), if_neg (by decide), if_neg (by decide), if_neg (by decide), if_neg (by decide)]
theorem does_some {k : Nat} {s : ByteArray} {l : List S32} {n q : Int} (hk : 20 ≤ k) (hq : 0 ≤ q ∧ q ≤ 4) (h : Rt l) : ∃ r, tarrylaw08_does.f k l s n q = some r := by
  have hl := h.1
  have key : ∀ q, 1 ≤ q ∧ q ≤ 4 → ∃ r, tarrylaw08_does.f k l s n q = some r := by
    intro q hq
    by_cases hu : 1 ≤ n ∧ n ≤ 1073741824
    · rcases find_is h s with ⟨x, hx, e⟩ | hn
      · exact ⟨_, does_yes hk hq h hu hx e⟩
      · exact ⟨_, does_no hk h hu hn⟩
    · exact ⟨_, does_bad hk hq (by omega) (.inr hu)⟩
  by_cases h0 : q = 0
  · subst h0
    rw [does0]
    exact key 4 (by omega)
  · exact key q (by omega)
theorem kind_ok (a : Int) : 0 ≤ (wrap64 (a.tmod 5 + 5)).tmod 5 ∧ (wrap64 (a.tmod 5 + 5)).tmod 5 ≤ 4 := by
  have h1 : a.tmod 5 < 5 := Int.tmod_lt_of_pos a (by omega)
  have h2 : -5 < a.tmod 5 := Int.lt_tmod_of_pos a (by omega)
  generalize a.tmod 5 = q at *
  rw [w64n (by omega) (by omega)]
  have h3 := Int.tmod_nonneg 5 (show 0 ≤ q + 5 by omega)
  have h4 : (q + 5).tmod 5 < 5 := Int.tmod_lt_of_pos _ (by omega)
  omega
theorem act_ok (rec : List S32 → Int → List (ByteArray × Int) → List (ByteArray × Int) → List (ByteArray × Int) → Option Bool) (i : Int) (hr : ∀ l gone lost came, Kp l gone lost came → rec l (wrap64 (i + 1)) gone lost came = some true) (l : List S32) (gone lost came : List (ByteArray × Int)) (x : S25) (h : Kp l gone lost came) (s : ByteArray) (q : Int) (hq : 0 ≤ q ∧ q ≤ 4)
    (hs : x.f1.extract 0 ((mn (x.f1.size : Int) 18).toNat) = s) (hqq : (wrap64 (x.f0.tmod 5 + 5)).tmod 5 = q) :
    (if q = 0 then ((stock_Receive.f 200 l s x.f2).bind fun z => tarrylaw08_StockKeeps.j21 200 rec i l gone lost came x z.1 z.2 true) else ((tarrylaw08_does.f 200 l s x.f2 q).bind fun z => tarrylaw08_StockKeeps.j21 200 rec i l gone lost came x z.1 z.2 false)) = some true := by
  have hl := h.right.1
  unfold tarrylaw08_StockKeeps.j21
  rw [hs, hqq]
  generalize hn : x.f2 = n
  have bad : ∀ (e : Int) (b : Bool), e ≠ 0 → (if e = 0 then (if q = 0 then ((stock_Right.f 200 ([] : List S32)).bind fun t => (if t = true then (rec [] (wrap64 (i + 1)) gone lost (mset came s (wrap64 ((mget came s 0) + n)))) else none)) else (if q = 3 then ((stock_Right.f 200 []).bind fun t => (if t = true then (rec [] (wrap64 (i + 1)) (mset gone s (wrap64 ((mget gone s 0) + n))) lost came) else none)) else (if q = 4 then ((stock_Right.f 200 []).bind fun t => (if t = true then (rec [] (wrap64 (i + 1)) gone (mset lost s (wrap64 ((mget lost s 0) + n))) came) else none)) else ((stock_Right.f 200 []).bind fun t => (if t = true then (rec [] (wrap64 (i + 1)) gone lost came) else none))))) else (if (([] : List S32).length : Int) = 0 then (rec l (wrap64 (i + 1)) gone lost came) else none)) = some true := by
    intro e b he
    rw [if_neg he, if_pos (show (([] : List S32).length : Int) = 0 from rfl)]
    exact hr l gone lost came h
  have rt : ∀ l' : List S32, Rt l' → stock_Right.f 200 l' = some true := by
    intro l' hr'
    have := hr'.1
    obtain ⟨b, h1, h2⟩ := right_tells 200 (by decide) l' (by omega)
    rw [h1, h2.2 hr']
  by_cases h0 : q = 0
  · rw [if_pos h0]
    by_cases hu : 1 ≤ n ∧ n ≤ 1073741824
    · rcases find_is h.right s with ⟨y, hy, e⟩ | hno
      · have hym := List.mem_of_getElem? hy
        obtain ⟨g0, g1, g2, g3, g4, g5, g6⟩ := h.right.2.1 y hym
        obtain ⟨r1, r2, r3⟩ := h.rows y hym
        unfold inU at *
        rw [receive_yes (by decide) h.right hu hy e, Option.bind_some]
        by_cases hov : y.f1 + n > 1073741824
        · rw [if_pos hov]
          exact bad 2 true (by decide)
        · rw [if_neg hov]
          have hgot : mayR (got n y) := by
            refine ⟨g0, ?_, ?_, ?_, ?_, ?_, ?_⟩ <;> (try unfold inU) <;> simp only [got] <;> omega
          have hk := h.set (came' := mset came s (wrap64 (mget came s 0 + n))) (gone' := gone) (lost' := lost) (y := got n y) hy rfl hgot (by
            simp only [got]
            rw [e] at r1 r2 r3 ⊢
            rw [mget_mset, if_pos rfl, ← r1, w64n (by omega) (by omega)]
            exact ⟨rfl, r2, r3⟩) (fun z hz => by
            simp only [got] at hz
            rw [e] at hz
            rw [mget_mset, if_neg hz]
            exact ⟨rfl, rfl, rfl⟩) (keys_mset _ _ _ h.keys) (fun z => by
            rw [mem_keys_mset]
            simp only [got]
            rw [e])
          rw [if_pos rfl, if_pos h0, rt _ hk.right, Option.bind_some, if_pos rfl]
          exact hr _ _ _ _ hk
      · by_cases hnm : nm s = true
        · rw [receive_new (by decide) h.right hu hnm hno, Option.bind_some]
          by_cases h8 : l.length = 8
          · rw [if_pos h8]
            exact bad 7 true (by decide)
          · rw [if_neg h8]
            have hput := Rt_put h.right hnm hno hu h8
            have hz := h.none s hno
            have hc0 : mget came s 0 = 0 := mget_none 0 s came (fun q => by
              obtain ⟨z, hz, e⟩ := (h.mem s).1 q
              exact hno z hz e)
            have hk : Kp (put_ ⟨s, n, n, 0, 0, 0⟩ l) gone lost (mset came s (wrap64 (mget came s 0 + n))) := by
              refine ⟨hput, fun z hz2 => ?_, fun z hz2 => ?_, keys_mset _ _ _ h.keys, fun z => ?_⟩
              · rcases mem_put.1 hz2 with rfl | hz2
                · simp only
                  rw [mget_mset, if_pos rfl, hc0, w64n (by omega) (by omega)]
                  exact ⟨by omega, hz.1.symm, hz.2.symm⟩
                · rw [mget_mset, if_neg (hno z hz2)]
                  exact h.rows z hz2
              · exact h.none z fun y hy => hz2 y (mem_put.2 (.inr hy))
              · rw [mem_keys_mset, h.mem]
                constructor
                · rintro (rfl | ⟨y, hy, e⟩)
                  · exact ⟨_, mem_put.2 (.inl rfl), rfl⟩
                  · exact ⟨y, mem_put.2 (.inr hy), e⟩
                · rintro ⟨y, hy, e⟩
                  rcases mem_put.1 hy with rfl | hy
                  · exact .inl e.symm
                  · exact .inr ⟨y, hy, e⟩
            rw [if_pos rfl, if_pos h0, rt _ hput, Option.bind_some, if_pos rfl]
            exact hr _ _ _ _ hk
        · rw [receive_bad (by decide) (by omega) (.inr (.inr (Bool.eq_false_iff.2 hnm))), Option.bind_some]
          exact bad 1 true (by decide)
    · rw [receive_bad (by decide) (by omega) (.inr (.inl hu)), Option.bind_some]
      exact bad 1 true (by decide)
  · rw [if_neg h0]
    have hq1 : 1 ≤ q ∧ q ≤ 4 := by omega
    by_cases hu : 1 ≤ n ∧ n ≤ 1073741824
    · rcases find_is h.right s with ⟨y, hy, e⟩ | hno
      · rw [does_yes (by decide) hq1 h.right hu hy e, Option.bind_some]
        by_cases ht : there q y < n
        · rw [if_pos ht]
          exact bad 11 false (by decide)
        · rw [if_neg ht]
          have hym := List.mem_of_getElem? hy
          obtain ⟨r1, r2, r3⟩ := h.rows y hym
          have hmv := mv_may (h.right.2.1 y hym) hu.1 ht
          have hmn := mv_name q n y
          have hmv2 := hmv
          obtain ⟨-, v1, v2, v3, v4, v5, v6⟩ := hmv2
          obtain ⟨-, g1, g2, g3, g4, g5, g6⟩ := h.right.2.1 y hym
          unfold inU at *
          rw [if_pos rfl, if_neg h0]
          have hmem : ∀ z, z ∈ came.map (·.1) ↔ z = (mv q n y).f0 ∨ z ∈ came.map (·.1) := fun z => by
            rw [hmn]
            constructor
            · exact .inr
            · rintro (rfl | h2)
              · exact (h.mem _).2 ⟨y, hym, rfl⟩
              · exact h2
          by_cases h3 : q = 3
          · have em : mv q n y = ⟨y.f0, y.f1, y.f2, y.f3 - n, y.f4 + n, y.f5⟩ := by subst h3; rfl
            have hk := h.set (came' := came) (gone' := mset gone s (wrap64 (mget gone s 0 + n))) (lost' := lost) hy hmn hmv (by
              rw [em] at v4 ⊢
              simp only at v4 ⊢
              rw [e] at r1 r2 r3 ⊢
              rw [mget_mset, if_pos rfl, ← r2, w64n (by omega) (by omega)]
              exact ⟨r1, rfl, r3⟩) (fun z hz => by
              rw [hmn, e] at hz
              rw [mget_mset, if_neg hz]
              exact ⟨rfl, rfl, rfl⟩) h.keys hmem
            rw [if_pos h3, rt _ hk.right, Option.bind_some, if_pos rfl]
            exact hr _ _ _ _ hk
          · rw [if_neg h3]
            by_cases h4 : q = 4
            · have em : mv q n y = ⟨y.f0, y.f1, y.f2 - n, y.f3, y.f4, y.f5 + n⟩ := by subst h4; rfl
              have hk := h.set (came' := came) (gone' := gone) (lost' := mset lost s (wrap64 (mget lost s 0 + n))) hy hmn hmv (by
                rw [em] at v5 ⊢
                simp only at v5 ⊢
                rw [e] at r1 r2 r3 ⊢
                rw [mget_mset, if_pos rfl, ← r3, w64n (by omega) (by omega)]
                exact ⟨r1, r2, rfl⟩) (fun z hz => by
                rw [hmn, e] at hz
                rw [mget_mset, if_neg hz]
                exact ⟨rfl, rfl, rfl⟩) h.keys hmem
              rw [if_pos h4, rt _ hk.right, Option.bind_some, if_pos rfl]
              exact hr _ _ _ _ hk
            · have em : (mv q n y).f1 = y.f1 ∧ (mv q n y).f4 = y.f4 ∧ (mv q n y).f5 = y.f5 := by
                have : q = 1 ∨ q = 2 := by omega
                rcases this with rfl | rfl <;> exact ⟨rfl, rfl, rfl⟩
              have hk := h.set (came' := came) (gone' := gone) (lost' := lost) hy hmn hmv (by rw [em.1, em.2.1, em.2.2, hmn]; exact ⟨r1, r2, r3⟩) (fun z hz => ⟨rfl, rfl, rfl⟩) h.keys hmem
              rw [if_neg h4, rt _ hk.right, Option.bind_some, if_pos rfl]
              exact hr _ _ _ _ hk
      · rw [does_no (by decide) h.right hu hno, Option.bind_some]
        exact bad 8 false (by decide)
    · rw [does_bad (by decide) hq1 (by omega) (.inr hu), Option.bind_some]
      exact bad 1 false (by decide)
theorem StockKeeps : tarrylaw08_StockKeeps.Pure := by
  intro l0 _
  refine ⟨200, ?_⟩
  have key : ∀ (d n i : Nat) (l : List S32) (gone lost came : List (ByteArray × Int)), i + d = 31 → d < n → Kp l gone lost came → tarrylaw08_StockKeeps.l19 200 l0 n l (i : Int) gone lost came = some true := by
    intro d
    induction d with
    | zero =>
      intro n i l gone lost came hi hn h
      obtain ⟨n, rfl⟩ : ∃ q, n = q + 1 := ⟨n - 1, by omega⟩
      rw [tarrylaw08_StockKeeps.l19]
      by_cases hl : (i : Int) < (l0.length : Int)
      · rw [if_pos hl, if_pos (by omega), Int.toNat_natCast, List.getElem?_eq_getElem (by omega), Option.bind_some, if_pos (by omega)]
        exact end_ok l gone lost came h
      · rw [if_neg hl]
        exact end_ok l gone lost came h
    | succ d ih =>
      intro n i l gone lost came hi hn h
      obtain ⟨n, rfl⟩ : ∃ q, n = q + 1 := ⟨n - 1, by omega⟩
      have hw : wrap64 ((i : Int) + 1) = ((i + 1 : Nat) : Int) := by rw [w64n (by omega) (by omega)]; omega
      rw [tarrylaw08_StockKeeps.l19]
      by_cases hl : (i : Int) < (l0.length : Int)
      case neg =>
        rw [if_neg hl]
        exact end_ok l gone lost came h
      rw [if_pos hl, if_pos (by omega), Int.toNat_natCast, List.getElem?_eq_getElem (by omega), Option.bind_some]
      generalize l0[i]'(by omega) = x
      by_cases h30 : (i : Int) ≥ 30
      · rw [if_pos h30]
        exact end_ok l gone lost came h
      rw [if_neg h30]
      obtain ⟨c1, c2, _⟩ := cut_tells x.f1
      rw [if_pos c1, if_pos c2]
      obtain ⟨z, hz⟩ := does_some (k := 200) (s := x.f1.extract 0 ((mn (x.f1.size : Int) 18).toNat)) (n := x.f2) (by decide) (kind_ok x.f0) h.right
      have := act_ok (tarrylaw08_StockKeeps.l19 200 l0 n) (i : Int) (fun l gone lost came h => by rw [hw]; exact ih n (i + 1) l gone lost came (by omega) (by omega) h) l gone lost came x h _ _ (kind_ok x.f0) rfl rfl
      rw [hz, Option.bind_some] at this ⊢
      obtain ⟨z1, z2⟩ := z
      exact this
  exact key 31 200 0 [] [] [] [] (by omega) (by omega) ⟨⟨by decide, by simp, List.Pairwise.nil⟩, fun x hx => (by cases hx), fun s _ => ⟨rfl, rfl⟩, List.Pairwise.nil, fun s => by simp⟩
end Go.Proofs.Ytibpoajlnloloaa.Pure
