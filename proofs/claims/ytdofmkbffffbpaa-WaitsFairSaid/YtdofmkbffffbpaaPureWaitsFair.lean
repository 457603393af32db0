/- WaitsFair: WaitsFair: at every list of lines, any order and class, the statement's Go function answers true (of those that wait each goes behind none that is behind it; one that is moved goes ahead of just those that came later and of later classes); no further condition. -/
import Derived.Test.YtdofmkbffffbpaaRWaitsFair
namespace Go.Proofs.Ytdofmkbffffbpaa.Pure
open Go Go.RowKit Go.Proofs.Ytdofmkbffffbpaa.PWaitsFair Go.Proofs.YtdofmkbffffbpaaV 
set_option linter.unusedSimpArgs false
set_option linter.unusedVariables false

theorem wf64 {a : Int} (h : (Lit.int .i64 a).wf = true) : -9223372036854775808 ≤ a ∧ a ≤ 9223372036854775807 := by
  simpa [Lit.wf, IntKind.min, IntKind.max, IntKind.signed, IntKind.bits] using h
theorem wrap64_id {a : Int} (h : -9223372036854775808 ≤ a) (h' : a ≤ 9223372036854775807) : wrap64 a = a := by
  unfold wrap64
  omega


theorem ba_toList_loop (a : ByteArray) : ∀ (d i : Nat) (r : List UInt8), a.size - i = d → ByteArray.toList.loop a i r = r.reverse ++ a.data.toList.drop i := by
  intro d
  induction d with
  | zero =>
    intro i r h
    unfold ByteArray.toList.loop
    have h1 : ¬ i < a.size := by omega
    rw [if_neg h1, List.drop_eq_nil_of_le (by show a.data.toList.length ≤ i; rw [Array.length_toList]; exact Nat.le_of_not_lt h1), List.append_nil]
  | succ d ih =>
    intro i r h
    unfold ByteArray.toList.loop
    have h1 : i < a.size := by omega
    have h2 : i < a.data.toList.length := by rw [Array.length_toList]; exact h1
    rw [if_pos h1, ih (i + 1) _ (by omega), List.reverse_cons, List.append_assoc, List.drop_eq_getElem_cons h2]
    have h3 : a.get! i = a.data.toList[i] := by
      show a.data[i]! = _
      rw [getElem!_pos a.data i h1]
      rfl
    rw [h3]
    rfl
theorem ba_toList (a : ByteArray) : a.toList = a.data.toList := by
  unfold ByteArray.toList
  rw [ba_toList_loop a a.size 0 [] (by omega)]
  rfl
/-! ### texts in order -/
theorem cb_self : ∀ l : List UInt8, Lib.compareBytes l l = 0
  | [] => rfl
  | a :: l => by
    have : ¬ a < a := by simp [UInt8.lt_iff_toNat_lt]
    rw [Lib.compareBytes, if_neg this, if_neg this]
    exact cb_self l
theorem cb_eq : ∀ (a b : List UInt8), Lib.compareBytes a b = 0 → a = b
  | [], [], _ => rfl
  | [], _ :: _, h => by rw [Lib.compareBytes] at h; omega
  | _ :: _, [], h => by rw [Lib.compareBytes] at h; omega
  | a :: xs, b :: ys, h => by
    rw [Lib.compareBytes] at h
    split at h
    · omega
    · split at h
      · omega
      · rename_i h1 h2
        have : a = b := by
          apply UInt8.toNat_inj.1
          simp only [UInt8.lt_iff_toNat_lt] at h1 h2
          omega
        rw [this, cb_eq xs ys h]
theorem cb_anti : ∀ (a b : List UInt8), Lib.compareBytes a b = - Lib.compareBytes b a
  | [], [] => rfl
  | [], _ :: _ => rfl
  | _ :: _, [] => rfl
  | a :: xs, b :: ys => by
    rw [Lib.compareBytes, Lib.compareBytes, cb_anti xs ys]
    simp only [UInt8.lt_iff_toNat_lt]
    split <;> split <;> omega
theorem cb_trans : ∀ (a b c : List UInt8), Lib.compareBytes a b < 0 → Lib.compareBytes b c < 0 → Lib.compareBytes a c < 0
  | [], [], _, h, _ => by rw [Lib.compareBytes] at h; omega
  | [], _ :: _, [], _, h => by rw [Lib.compareBytes] at h; omega
  | [], _ :: _, _ :: _, _, _ => by rw [Lib.compareBytes]; omega
  | _ :: _, [], _, h, _ => by rw [Lib.compareBytes] at h; omega
  | _ :: _, _ :: _, [], _, h => by rw [Lib.compareBytes] at h; omega
  | a :: xs, b :: ys, c :: zs, h1, h2 => by
    have ih := cb_trans xs ys zs
    rw [Lib.compareBytes] at h1 h2 ⊢
    simp only [UInt8.lt_iff_toNat_lt] at *
    split at h1
    · split at h2
      · rw [if_pos (by omega)]; omega
      · split at h2
        · omega
        · rw [if_pos (by omega)]; omega
    · split at h1
      · omega
      · split at h2
        · rw [if_pos (by omega)]; omega
        · split at h2
          · omega
          · rw [if_neg (by omega), if_neg (by omega)]
            exact ih h1 h2
theorem bl_is : ∀ (a b : List UInt8), Op.bytesLess a b = decide (Lib.compareBytes a b < 0)
  | [], [] => rfl
  | [], _ :: _ => rfl
  | _ :: _, [] => rfl
  | a :: xs, b :: ys => by
    rw [Op.bytesLess, Lib.compareBytes, bl_is xs ys]
    simp only [UInt8.lt_iff_toNat_lt]
    by_cases h1 : a.toNat < b.toNat
    · simp [h1]
    · by_cases h2 : b.toNat < a.toNat
      · have : ¬ a = b := fun e => by rw [e] at h2; omega
        simp [h1, h2, this]
      · have : a = b := UInt8.toNat_inj.1 (by omega)
        simp [this]
def sc (a b : ByteArray) : Int := Lib.compareBytes a.data.toList b.data.toList
def sl (a b : ByteArray) : Prop := sc a b < 0
instance (a b : ByteArray) : Decidable (sl a b) := by unfold sl; exact inferInstance
theorem sl_trans {a b c : ByteArray} (h1 : sl a b) (h2 : sl b c) : sl a c := cb_trans _ _ _ h1 h2
theorem sc_self (a : ByteArray) : sc a a = 0 := cb_self _
theorem sc_anti (a b : ByteArray) : sc a b = - sc b a := cb_anti _ _
theorem sc_eq {a b : ByteArray} : sc a b = 0 ↔ a = b := by
  refine ⟨fun h => ?_, fun h => by rw [h]; exact sc_self b⟩
  have := cb_eq _ _ h
  cases a with
  | mk a =>
    cases b with
    | mk b => simpa using this
theorem sl_irr (a : ByteArray) : ¬ sl a a := by unfold sl; rw [sc_self]; decide
theorem sl_asymm {a b : ByteArray} (h : sl a b) : ¬ sl b a := by unfold sl at *; rw [sc_anti b a]; omega
theorem sl_tri {a b : ByteArray} (h : ¬ sl a b) (hne : a ≠ b) : sl b a := by
  unfold sl at *
  rw [sc_anti b a]
  have : sc a b ≠ 0 := fun e => hne (sc_eq.1 e)
  omega
theorem bytesLess_is (a b : ByteArray) : Op.bytesLess a.toList b.toList = decide (sl a b) := by rw [ba_toList, ba_toList]; exact bl_is _ _
/-! ### bytes -/
theorem bt_is {s : ByteArray} {i : Nat} (h : i < s.size) : (byI s)[i]? = some (bt s i) := by
  unfold byI bt
  rw [List.getElem?_map, Array.getElem?_toList, Int.toNat_natCast, dif_pos h]
  have : s.data[i]? = some s.data[i] := Array.getElem?_eq_getElem h
  rw [this]
  rfl
theorem byI_sl (a b : ByteArray) : a.data.toList.map (fun c => (c.toNat : Int)) = byI a := rfl
def charB (c : Int) : Bool := (decide (97 ≤ c) && decide (c ≤ 122)) || (decide (48 ≤ c) && decide (c ≤ 57))
theorem charB_eq (c : Int) : charB c = decide ((97 ≤ c ∧ c ≤ 122) ∨ (48 ≤ c ∧ c ≤ 57)) := by
  unfold charB
  simp only [Bool.decide_or, Bool.decide_and]
/-- May a text be a name? -/
def nm (s : ByteArray) : Bool := decide (s.size ≠ 0) && (decide (s.size ≤ 16) && (byI s).all charB)
theorem beq_is (a b : ByteArray) : (a == b) = decide (a = b) := by
  rw [beq_toListBytes, ba_toList, ba_toList, Bool.eq_iff_iff, beq_iff_eq, decide_eq_true_eq]
  refine ⟨fun h => ?_, fun h => by rw [h]⟩
  cases a with
  | mk a =>
    cases b with
    | mk b => simpa using h
theorem nil_is (s : ByteArray) : (s == (⟨#[]⟩ : ByteArray)) = decide (s.size = 0) := by
  rw [beq_is, decide_eq_decide]
  refine ⟨fun h => by rw [h]; rfl, fun h => ?_⟩
  cases s with
  | mk d =>
    have : d = #[] := Array.eq_empty_of_size_eq_zero h
    rw [this]


theorem take_drop0 {α : Type} (l : List α) (i : Nat) : (l.take i).drop 0 = l.take i := rfl
theorem w64n {n : Int} (h1 : -9000000000000000000 ≤ n) (h2 : n ≤ 9000000000000000000) : wrap64 n = n := by unfold wrap64; omega
/-- A binary search's middle. -/
theorem mid_is {i j : Nat} (hi : i ≤ 1000000) (hj : j ≤ 1000000) : wrap64 ((IntKind.u64.wrap (wrap64 ((i : Int) + (j : Int)))).fdiv (2 ^ min (1 : Int).toNat IntKind.u64.bits)) = (((i + j) / 2 : Nat) : Int) := by
  have e1 : wrap64 ((i : Int) + (j : Int)) = ((i + j : Nat) : Int) := by unfold wrap64; omega
  have e2 : IntKind.u64.wrap ((i + j : Nat) : Int) = ((i + j : Nat) : Int) := by
    have h : IntKind.u64.wrap ((i + j : Nat) : Int) = ((i + j : Nat) : Int) % 18446744073709551616 := rfl
    rw [h]
    omega
  have e3 : (2 : Int) ^ min (1 : Int).toNat IntKind.u64.bits = 2 := by decide
  rw [e1, e2, e3, Int.fdiv_eq_ediv_of_nonneg _ (by decide)]
  unfold wrap64
  omega
/-- The things ahead of the first one that is not so. -/
theorem tw_len_le {α : Type} (p : α → Bool) (l : List α) : (l.takeWhile p).length ≤ l.length := by
  induction l with
  | nil => simp
  | cons x xs ih => rw [List.takeWhile_cons]; split <;> simp <;> omega
theorem tw_lt {α : Type} (p : α → Bool) : ∀ (l : List α) (i : Nat) (x : α), l[i]? = some x → i < (l.takeWhile p).length → p x = true
  | [], i, x, h, _ => by simp at h
  | y :: l, 0, x, h, hi => by
    simp only [List.getElem?_cons_zero, Option.some.injEq] at h
    subst h
    rw [List.takeWhile_cons] at hi
    by_cases hp : p y = true
    · exact hp
    · rw [if_neg hp] at hi; simp at hi
  | y :: l, i + 1, x, h, hi => by
    simp only [List.getElem?_cons_succ] at h
    rw [List.takeWhile_cons] at hi
    split at hi
    · exact tw_lt p l i x h (by simpa using hi)
    · simp at hi
theorem tw_at {α : Type} (p : α → Bool) : ∀ (l : List α) (x : α), l[(l.takeWhile p).length]? = some x → p x = false
  | [], x, h => by simp at h
  | y :: l, x, h => by
    rw [List.takeWhile_cons] at h
    by_cases hp : p y = true
    · rw [if_pos hp] at h
      simp only [List.length_cons, List.getElem?_cons_succ] at h
      exact tw_at p l x h
    · rw [if_neg hp] at h
      simp only [List.length_nil, List.getElem?_cons_zero, Option.some.injEq] at h
      subst h
      simpa using hp
/-- Where what is so stands ahead of what is not. -/
def Downs {α : Type} (p : α → Bool) (l : List α) : Prop := ∀ (i j : Nat) (x y : α), i < j → l[i]? = some x → l[j]? = some y → p y = true → p x = true
theorem tw_ge {α : Type} {p : α → Bool} {l : List α} (h : Downs p l) {i : Nat} {x : α} (hx : l[i]? = some x) (hi : (l.takeWhile p).length ≤ i) : p x = false := by
  have hl := (List.getElem?_eq_some_iff.1 hx).1
  obtain ⟨y, hn⟩ : ∃ y, l[(l.takeWhile p).length]? = some y := ⟨_, List.getElem?_eq_getElem (by omega)⟩
  have h0 := tw_at p l _ hn
  rcases Nat.lt_or_eq_of_le hi with h1 | h1
  · cases hp : p x with
    | false => rfl
    | true => rw [h _ _ _ _ h1 hn hx hp] at h0; cases h0
  · rw [h1, hx] at hn
    obtain rfl := Option.some.inj hn
    exact h0
theorem take_tw {α : Type} (p : α → Bool) (l : List α) : l.take (l.takeWhile p).length = l.takeWhile p := by
  induction l with
  | nil => rfl
  | cons x xs ih => rw [List.takeWhile_cons]; split <;> simp [ih]
theorem drop_tw {α : Type} (p : α → Bool) (l : List α) : l.drop (l.takeWhile p).length = l.dropWhile p := by
  induction l with
  | nil => rfl
  | cons x xs ih => rw [List.takeWhile_cons, List.dropWhile_cons]; split <;> simp [ih]
theorem pw_get {α : Type} {R : α → α → Prop} {l : List α} (h : l.Pairwise R) {i j : Nat} {x y : α} (hij : i < j) (hx : l[i]? = some x) (hy : l[j]? = some y) : R x y := by
  obtain ⟨h1, rfl⟩ := List.getElem?_eq_some_iff.1 hx
  obtain ⟨h2, rfl⟩ := List.getElem?_eq_some_iff.1 hy
  exact List.pairwise_iff_getElem.1 h i j h1 h2 hij
theorem pw_of_get {α : Type} {R : α → α → Prop} {l : List α} (h : ∀ (i j : Nat) (x y : α), i < j → l[i]? = some x → l[j]? = some y → R x y) : l.Pairwise R :=
  List.pairwise_iff_getElem.2 fun i j h1 h2 hij => h i j _ _ hij (List.getElem?_eq_getElem h1) (List.getElem?_eq_getElem h2)
theorem drop_cons_is {α : Type} {l : List α} {i : Nat} {x : α} {xs : List α} (h : l.drop i = x :: xs) : i < l.length ∧ l[i]? = some x ∧ l.drop (i + 1) = xs := by
  have h1 : i < l.length := by have := congrArg List.length h; simp at this; omega
  rw [List.drop_eq_getElem_cons h1] at h
  obtain ⟨h2, h3⟩ := List.cons.inj h
  exact ⟨h1, by rw [List.getElem?_eq_getElem h1, h2], h3⟩
theorem drop_nil_is {α : Type} {l : List α} {i : Nat} (h : l.drop i = []) : l.length ≤ i := by have := congrArg List.length h; simp at this; omega
theorem filter_split {α : Type} (p : α → Bool) (l : List α) : (l.filter p).length + (l.filter (fun x => !p x)).length = l.length := by
  induction l with
  | nil => rfl
  | cons x xs ih => by_cases h : p x = true <;> simp [List.filter_cons, h] <;> omega
theorem mem_tw_dw {α : Type} (p : α → Bool) (l : List α) (y : α) : (y ∈ l.takeWhile p ∨ y ∈ l.dropWhile p) ↔ y ∈ l := by
  rw [← List.mem_append, List.takeWhile_append_dropWhile]
theorem mem_tw {α : Type} {p : α → Bool} {l : List α} {y : α} (h : y ∈ l.takeWhile p) : p y = true := by
  obtain ⟨i, hi⟩ := List.getElem?_of_mem h
  have hlt := (List.getElem?_eq_some_iff.1 hi).1
  rw [← take_tw, List.getElem?_take, if_pos hlt] at hi
  exact tw_lt p l i y hi hlt
theorem mem_dw {α : Type} {p : α → Bool} {l : List α} (hd : Downs p l) {y : α} (h : y ∈ l.dropWhile p) : p y = false := by
  obtain ⟨i, hi⟩ := List.getElem?_of_mem h
  rw [← drop_tw, List.getElem?_drop] at hi
  exact tw_ge hd hi (by omega)
/-- Two rows that rise, of the same things, are the same row. -/
theorem eq_of_rise {α : Type} {R : α → α → Prop} (irr : ∀ a b, R a b → ¬ R b a) : ∀ (l l' : List α), l.Pairwise R → l'.Pairwise R → (∀ x, x ∈ l ↔ x ∈ l') → l = l'
  | [], [], _, _, _ => rfl
  | [], b :: l', _, _, h => by have := (h b).2 (by simp); cases this
  | a :: l, [], _, _, h => by have := (h a).1 (by simp); cases this
  | a :: l, b :: l', h1, h2, h => by
    rw [List.pairwise_cons] at h1 h2
    have hab : a = b := by
      rcases List.mem_cons.1 ((h a).1 (by simp)) with e | e
      · exact e
      rcases List.mem_cons.1 ((h b).2 (by simp)) with e2 | e2
      · exact e2.symm
      exact absurd (h1.1 b e2) (irr _ _ (h2.1 a e))
    subst hab
    have hna : ∀ x, R x x → False := fun x hx => irr x x hx hx
    rw [eq_of_rise irr l l' h1.2 h2.2 fun x => ⟨fun hx => ?_, fun hx => ?_⟩]
    · rcases List.mem_cons.1 ((h x).1 (by simp [hx])) with e | e
      · subst e; exact absurd (h1.1 _ hx) (hna _)
      · exact e
    · rcases List.mem_cons.1 ((h x).2 (by simp [hx])) with e | e
      · subst e; exact absurd (h2.1 _ hx) (hna _)
      · exact e
theorem filter_tw {α : Type} {p : α → Bool} : ∀ {l : List α}, Downs p l → l.filter p = l.takeWhile p
  | [], _ => rfl
  | x :: xs, h => by
    by_cases hx : p x = true
    · rw [List.filter_cons, if_pos hx, List.takeWhile_cons, if_pos hx, filter_tw (l := xs) fun i j a b hij ha hb hp => h (i + 1) (j + 1) a b (by omega) (by simpa using ha) (by simpa using hb) hp]
    · rw [List.takeWhile_cons, if_neg hx, List.filter_eq_nil_iff]
      intro y hy hp
      obtain ⟨j, hj⟩ := List.getElem?_of_mem hy
      cases j with
      | zero => simp at hj; subst hj; exact hx hp
      | succ j => exact hx (h 0 (j + 1) x y (by omega) rfl hj hp)
theorem tw_mono {α : Type} {p q : α → Bool} (h : ∀ x, p x = true → q x = true) (l : List α) : (l.takeWhile p).length ≤ (l.takeWhile q).length := by
  induction l with
  | nil => simp
  | cons x xs ih =>
    rw [List.takeWhile_cons, List.takeWhile_cons]
    by_cases hx : p x = true
    · rw [if_pos hx, if_pos (h x hx)]; simp; omega
    · rw [if_neg hx]; simp
theorem pw_of_adj {α : Type} {R : α → α → Prop} (tr : ∀ {a b c}, R a b → R b c → R a c) {l : List α} (h : ∀ (i : Nat) (x y : α), l[i]? = some x → l[i + 1]? = some y → R x y) : l.Pairwise R := by
  have hall : ∀ (d i : Nat) (x y : α), l[i]? = some x → l[i + 1 + d]? = some y → R x y := by
    intro d
    induction d with
    | zero => intro i x y hx hy; exact h i x y hx hy
    | succ d ih =>
      intro i x y hx hy
      have hlt := (List.getElem?_eq_some_iff.1 hy).1
      have hz : l[i + 1 + d]? = some l[i + 1 + d] := List.getElem?_eq_getElem (by omega)
      exact tr (ih i x _ hx hz) (h (i + 1 + d) _ y hz hy)
  exact pw_of_get fun i j x y hij hx hy => hall (j - i - 1) i x y hx (by rw [show i + 1 + (j - i - 1) = j by omega]; exact hy)


theorem odd_tells (c : Int) : goods_name_1.f c = some (!charB c) := by
  unfold goods_name_1.f
  rw [charB_eq]
  by_cases hP : (97 ≤ c ∧ c ≤ 122) ∨ (48 ≤ c ∧ c ≤ 57)
  · rw [decide_eq_true hP]
    (repeat' split) <;> first | rfl | omega | (rw [decide_eq_false (by omega)]; rfl)
  · rw [decide_eq_false hP]
    (repeat' split) <;> first | rfl | omega | (rw [decide_eq_true (by omega)]; rfl)
theorem bytes_tells (k : Nat) (l : List Int) (hk : l.length < k) (hs : l.length < 1000000) : slices_ContainsFunc_byte_byte.f k l = some (l.any (fun c => !charB c)) := by
  have key : ∀ (xs : List Int) (i : Nat), ∃ j, slices_IndexFunc_byte_byte.r1 k l xs i = some j ∧ decide (j ≥ 0) = xs.any (fun c => !charB c) := by
    intro xs
    induction xs with
    | nil => intro i; exact ⟨-1, rfl, rfl⟩
    | cons x xs ih =>
      intro i
      rw [slices_IndexFunc_byte_byte.r1, odd_tells, Option.bind_some, List.any_cons]
      cases charB x with
      | false => exact ⟨i, rfl, by simp⟩
      | true => simpa using ih (i + 1)
  unfold slices_ContainsFunc_byte_byte.f slices_IndexFunc_byte_byte.f
  have := slices_IndexFunc_byte_byte.r1_eq k l (by omega) k 0 (by omega) (by omega)
  rw [show ((0 : Nat) : Int) = 0 from rfl, List.drop_zero] at this
  rw [this]
  obtain ⟨j, h1, h2⟩ := key l 0
  rw [h1, Option.bind_some, h2]
theorem name_tells (k : Nat) (hk : 20 ≤ k) (s : ByteArray) : goods_name.f k s = some (nm s) := by
  unfold goods_name.f nm
  rw [nil_is]
  by_cases h0 : s.size = 0
  · simp [h0]
  · rw [if_neg (by simpa using h0)]
    by_cases h1 : s.size ≤ 16
    · rw [if_pos (by omega), if_pos (by omega), bytes_tells k _ (by rw [byI_len]; omega) (by rw [byI_len]; omega), Option.bind_some]
      have : (byI s).any (fun c => !charB c) = !(byI s).all charB := by rw [List.not_all_eq_any_not]
      rw [this]
      cases (byI s).all charB <;> simp [h0, h1]
    · rw [if_neg (by omega)]
      simp [h1]
theorem csub_nil (k : Nat) : True := trivial
theorem gright_one (k : Nat) (hk : 20 ≤ k) (s : ByteArray) : goods_Right.f k [s] [] = some (nm s) := by
  obtain ⟨k, rfl⟩ : ∃ q, k = q + 2 := ⟨k - 2, by omega⟩
  have h1 : slices_ContainsFunc_string_string.f (k + 2) [s] = some (!nm s) := by
    unfold slices_ContainsFunc_string_string.f slices_IndexFunc_string_string.f
    have := slices_IndexFunc_string_string.r1_eq (k + 2) [s] (by simp) (k + 2) 0 (by simp) (by simp)
    rw [show ((0 : Nat) : Int) = 0 from rfl, List.drop_zero] at this
    rw [this, slices_IndexFunc_string_string.r1, goods_Right_2.f, name_tells (k + 2) hk, Option.bind_some]
    cases nm s <;> rfl
  have h2 : goods_rising_string.f (k + 2) [s] 8 = some true := by
    unfold goods_rising_string.f
    rw [goods_rising_string.l1, if_neg (by simp)]
    rfl
  have h3 : goods_rising_Sub.f (k + 2) [] 16 = some true := by
    unfold goods_rising_Sub.f
    rw [goods_rising_Sub.l1, if_neg (by simp)]
    rfl
  unfold goods_Right.f
  rw [goods_Right.l1, if_neg (by simp), h1, Option.bind_some, h2, Option.bind_some, h3]
  cases nm s <;> rfl




theorem or_at (k : Nat) (l : List Int) (m i : Nat) (x : Int) (hx : l[i]? = some x) (hi : i < 1000) : cmp_Or_int.l1 k l (m + 1) (i : Int) = if x = 0 then cmp_Or_int.l1 k l m ((i + 1 : Nat) : Int) else some x := by
  have hl : i < l.length := (List.getElem?_eq_some_iff.1 hx).1
  have hw : wrap64 ((i : Int) + 1) = ((i + 1 : Nat) : Int) := by
    unfold wrap64
    omega
  rw [cmp_Or_int.l1, if_pos (by omega), if_pos (by omega), Int.toNat_natCast, hx, Option.bind_some, hw]
theorem or_end (k : Nat) (l : List Int) (m i : Nat) (h : l.length ≤ i) : cmp_Or_int.l1 k l (m + 1) (i : Int) = some 0 := by
  rw [cmp_Or_int.l1, if_neg (by omega)]
theorem or2_is (k : Nat) (hk : 4 ≤ k) (a b : Int) : cmp_Or_int.f k [a, b] = some (if a = 0 then b else a) := by
  obtain ⟨k, rfl⟩ : ∃ q, k = q + 4 := ⟨k - 4, by omega⟩
  unfold cmp_Or_int.f
  rw [show (0 : Int) = ((0 : Nat) : Int) from rfl, or_at _ _ _ _ a rfl (by decide), or_at _ _ _ _ b rfl (by decide), or_end _ _ _ _ (by simp)]
  repeat' split
  all_goals simp_all
theorem or3_is (k : Nat) (hk : 4 ≤ k) (a b c : Int) : cmp_Or_int.f k [a, b, c] = some (if a = 0 then (if b = 0 then c else b) else a) := by
  obtain ⟨k, rfl⟩ : ∃ q, k = q + 4 := ⟨k - 4, by omega⟩
  unfold cmp_Or_int.f
  rw [show (0 : Int) = ((0 : Nat) : Int) from rfl, or_at _ _ _ _ a rfl (by decide), or_at _ _ _ _ b rfl (by decide), or_at _ _ _ _ c rfl (by decide), or_end _ _ _ _ (by simp)]
  repeat' split
  all_goals simp_all
theorem cint_is (a b : Int) : cmp_Compare_int.f a b = some (if a < b then -1 else if a > b then 1 else 0) := by
  unfold cmp_Compare_int.f cmp_isNaN_int.f
  simp only [Option.bind_some, bne_self_eq_false, Bool.false_eq_true, if_false]
  split
  · rfl
  · split <;> rfl
/-- Which wait goes ahead. -/
def ql (a b : S25) : Prop := a.f1 < b.f1 ∨ (a.f1 = b.f1 ∧ (a.f2 < b.f2 ∨ (a.f2 = b.f2 ∧ a.f3 < b.f3)))
instance (a b : S25) : Decidable (ql a b) := by unfold ql; exact inferInstance
/-- Which line stands ahead. -/
def lt (a b : S25) : Prop := sl a.f0 b.f0 ∨ (a.f0 = b.f0 ∧ ql a b)
instance (a b : S25) : Decidable (lt a b) := by unfold lt; exact inferInstance
theorem qless_is (k : Nat) (hk : 4 ≤ k) (x y : S25) : queue_Less.f k x.f1 x.f2 x.f3 y.f1 y.f2 y.f3 = some (decide (ql x y)) := by
  unfold queue_Less.f queue_compare.f
  simp only [cint_is, Option.bind_some, or3_is k hk]
  congr 1
  rw [decide_eq_decide]
  unfold ql
  repeat' split
  all_goals omega
theorem ql_irr (a : S25) : ¬ ql a a := by unfold ql; omega
theorem ql_asymm {a b : S25} (h : ql a b) : ¬ ql b a := by unfold ql at *; omega
theorem ql_trans {a b c : S25} (h1 : ql a b) (h2 : ql b c) : ql a c := by unfold ql at *; omega
theorem scmp_is (a b : ByteArray) : strings_Compare.f a b = some (sc a b) := rfl
theorem cmp_is (k : Nat) (hk : 4 ≤ k) (x y : S25) : ∃ c, waits_compare.f k x.f0 x.f1 x.f2 x.f3 y.f0 y.f1 y.f2 y.f3 = some c ∧ (c < 0 ↔ lt x y) := by
  have w0 : wrap64 (1 - 1) = 0 := by decide +kernel
  have w1 : wrap64 (0 - 1) = -1 := by decide +kernel
  have w2 : wrap64 (1 - 0) = 1 := by decide +kernel
  have w3 : wrap64 (0 - 0) = 0 := by decide +kernel
  have he := @sc_eq x.f0 y.f0
  unfold waits_compare.f
  rw [qless_is k hk x y, qless_is k hk y x]
  simp only [Option.bind_some, scmp_is, or2_is k hk, w0, w1, w2, w3, decide_eq_true_eq]
  have h1 := @ql_asymm x y
  unfold lt sl
  rw [← he]
  generalize sc x.f0 y.f0 = s at *
  by_cases a1 : ql x y
  · have a2 := h1 a1
    simp only [if_pos a1, if_neg a2]
    refine ⟨_, rfl, ?_⟩
    split
    · rename_i h; subst h; simp [a1]
    · rename_i h; simp [h]
  · by_cases a2 : ql y x
    · simp only [if_neg a1, if_pos a2]
      refine ⟨_, rfl, ?_⟩
      split
      · rename_i h; subst h; simp [a1]
      · rename_i h; simp [h]
    · simp only [if_neg a1, if_neg a2]
      refine ⟨_, rfl, ?_⟩
      split
      · rename_i h; subst h; simp [a1]
      · rename_i h; simp [h]
theorem lt_irr (a : S25) : ¬ lt a a := by
  rintro (h | ⟨_, h⟩)
  · exact sl_irr _ h
  · exact ql_irr _ h
theorem lt_trans {a b c : S25} (h1 : lt a b) (h2 : lt b c) : lt a c := by
  unfold lt at *
  rcases h1 with h1 | ⟨e1, h1⟩ <;> rcases h2 with h2 | ⟨e2, h2⟩
  · exact .inl (sl_trans h1 h2)
  · exact .inl (e2 ▸ h1)
  · exact .inl (e1 ▸ h2)
  · exact .inr ⟨e1.trans e2, ql_trans h1 h2⟩
theorem lt_tri {a b : S25} (h1 : ¬ lt a b) (h2 : ¬ lt b a) : a = b := by
  unfold lt at *
  have e : a.f0 = b.f0 := by
    by_cases e : a.f0 = b.f0
    · exact e
    · exact absurd (sl_tri (fun h => h1 (.inl h)) e) (fun h => h2 (.inl h))
  have h3 : ¬ ql a b := fun h => h1 (.inr ⟨e, h⟩)
  have h4 : ¬ ql b a := fun h => h2 (.inr ⟨e.symm, h⟩)
  unfold ql at *
  cases a
  cases b
  simp only [S25.mk.injEq] at *
  exact ⟨e, by omega, by omega, by omega⟩
theorem lt_asymm {a b : S25} (h1 : lt a b) : ¬ lt b a := fun h2 => lt_irr a (lt_trans h1 h2)


/-! ### lines -/
def wq (a b c : Int) : Bool := decide (0 ≤ a ∧ a ≤ 3 ∧ 1 ≤ b ∧ b ≤ 1099511627776 ∧ 1 ≤ c ∧ c ≤ 1099511627776)
def MAY (x : S25) : Bool := nm x.f0 && wq x.f1 x.f2 x.f3
theorem qnum_tells (a : Int) : queue_number.f a = some (decide (1 ≤ a ∧ a ≤ 1099511627776)) := by
  unfold queue_number.f
  split <;> simp <;> omega
theorem qmay_tells (a b c : Int) : queue_may.f a b c = some (wq a b c) := by
  unfold queue_may.f wq
  simp only [qnum_tells, Option.bind_some, decide_eq_true_eq]
  repeat' split
  all_goals (congr 1; first | (symm; apply decide_eq_true; omega) | (symm; apply decide_eq_false; omega) | (apply decide_eq_decide.2; omega))
theorem qright_one (k : Nat) (hk : 20 ≤ k) (a b c : Int) : queue_Right.f k [⟨a, b, c⟩] = some (wq a b c) := by
  obtain ⟨k, rfl⟩ : ∃ q, k = q + 2 := ⟨k - 2, by omega⟩
  have h1 : slices_ContainsFunc_api_Wait_api_Wait.f (k + 2) [⟨a, b, c⟩] = some (!wq a b c) := by
    unfold slices_ContainsFunc_api_Wait_api_Wait.f slices_IndexFunc_api_Wait_api_Wait.f
    have := slices_IndexFunc_api_Wait_api_Wait.r1_eq (k + 2) [⟨a, b, c⟩] (by simp) (k + 2) 0 (by simp) (by simp)
    rw [show ((0 : Nat) : Int) = 0 from rfl, List.drop_zero] at this
    rw [this, slices_IndexFunc_api_Wait_api_Wait.r1, queue_all_1.f, qmay_tells, Option.bind_some]
    cases wq a b c <;> rfl
  unfold queue_Right.f
  rw [queue_Right.l1, if_neg (by simp)]
  unfold queue_all.f
  rw [if_pos (by simp), h1]
  cases wq a b c <;> rfl
theorem may_tells (k : Nat) (hk : 20 ≤ k) (x : S25) : waits_may.f k x.f0 x.f1 x.f2 x.f3 = some (MAY x) := by
  unfold waits_may.f MAY
  rw [gright_one k hk, Option.bind_some]
  cases nm x.f0 with
  | false => rfl
  | true => rw [if_pos rfl, qright_one k hk]; rfl
/-- Two lines of one order, or time. -/
def lk (x y : S25) : Bool := x.f3 == y.f3 || x.f2 == y.f2
theorem lk_comm (x y : S25) : lk x y = lk y x := by
  unfold lk
  rw [Bool.beq_comm (a := x.f3), Bool.beq_comm (a := x.f2)]
theorem lk_ne {x y : S25} (h : lk x y = false) : x.f2 ≠ y.f2 ∧ x.f3 ≠ y.f3 ∧ x ≠ y := by
  unfold lk at h
  simp only [Bool.or_eq_false_iff, beq_eq_false_iff_ne] at h
  exact ⟨h.2, h.1, fun e => h.1 (by rw [e])⟩
theorem like_tells (x y : S25) : waits_like_is.f x.f0 x.f1 x.f2 x.f3 y.f0 y.f1 y.f2 y.f3 = some (lk x y) := by
  unfold waits_like_is.f lk
  split
  · rename_i h; rw [beq_iff_eq.2 h]; rfl
  · rename_i h; rw [beq_eq_false_iff_ne.2 h, Bool.false_or]
theorem has_tells (k : Nat) (l : List S25) (x : S25) (hk : l.length < k) (hs : l.length < 1000000) : slices_ContainsFunc_api_Line_api_Line.f k l x.f0 x.f1 x.f2 x.f3 = some (l.any (lk x)) := by
  have key : ∀ (xs : List S25) (i : Nat), ∃ j, slices_IndexFunc_api_Line_api_Line.r1 k x.f0 x.f1 x.f2 x.f3 l xs i = some j ∧ decide (j ≥ 0) = xs.any (lk x) := by
    intro xs
    induction xs with
    | nil => intro i; exact ⟨-1, rfl, rfl⟩
    | cons y xs ih =>
      intro i
      rw [slices_IndexFunc_api_Line_api_Line.r1, like_tells, Option.bind_some, List.any_cons]
      cases lk x y with
      | true => exact ⟨i, rfl, by simp⟩
      | false => simpa using ih (i + 1)
  unfold slices_ContainsFunc_api_Line_api_Line.f slices_IndexFunc_api_Line_api_Line.f
  have := slices_IndexFunc_api_Line_api_Line.r1_eq k x.f0 x.f1 x.f2 x.f3 l (by omega) k 0 (by omega) (by omega)
  rw [show ((0 : Nat) : Int) = 0 from rfl, List.drop_zero] at this
  rw [this]
  obtain ⟨j, h1, h2⟩ := key l 0
  rw [h1, Option.bind_some, h2]
/-- Which lines may be. -/
def AL (l : List S25) : Prop := l.length ≤ 32 ∧ (∀ x ∈ l, MAY x = true) ∧ l.Pairwise (fun a b => lk a b = false)
instance (l : List S25) : Decidable (AL l) := by unfold AL; exact inferInstance
theorem pw_any {l : List S25} : (∀ (j : Nat) (x : S25), l[j]? = some x → (l.take j).any (lk x) = false) ↔ l.Pairwise (fun a b => lk a b = false) := by
  constructor
  · intro h
    refine pw_of_get fun i j x y hij hx hy => ?_
    have := h j y hy
    rw [List.any_eq_false] at this
    have h2 := this x (List.mem_of_getElem? (i := i) (by rw [List.getElem?_take, if_pos hij]; exact hx))
    rw [lk_comm]
    simpa using h2
  · intro h j x hx
    rw [List.any_eq_false]
    intro y hy
    obtain ⟨i, hi⟩ := List.getElem?_of_mem hy
    rw [List.getElem?_take] at hi
    split at hi
    · rename_i hij
      rw [lk_comm, pw_get h hij hi hx]
      simp
    · cases hi
theorem some_dec {p : Prop} [Decidable p] {o : Option Bool} (h : ∃ b, o = some b ∧ (b = true ↔ p)) : o = some (decide p) := by
  obtain ⟨b, h1, h2⟩ := h
  rw [h1]
  congr 1
  by_cases hp : p
  · rw [decide_eq_true hp, h2.2 hp]
  · rw [decide_eq_false hp]
    cases b with
    | false => rfl
    | true => exact absurd (h2.1 rfl) hp
theorem all_tells (k : Nat) (hk : 100 ≤ k) (l : List S25) (hl : l.length ≤ 90) : waits_all.f k l = some (decide (AL l)) := by
  refine some_dec ?_
  have key : ∀ (xs : List S25) (i : Nat), l.drop i = xs → (∃ b, waits_all.r1 k l xs i = some b ∧ (b = true ↔ (∀ x ∈ xs, MAY x = true) ∧ (∀ (j : Nat) (x : S25), i ≤ j → l[j]? = some x → (l.take j).any (lk x) = false) ∧ l.length ≤ 32)) := by
    intro xs
    induction xs with
    | nil =>
      intro i hi
      rw [waits_all.r1]
      have hli := drop_nil_is hi
      have hv : ∀ (j : Nat) (x : S25), i ≤ j → l[j]? = some x → (l.take j).any (lk x) = false := fun j x hj hx => by have := (List.getElem?_eq_some_iff.1 hx).1; omega
      refine ⟨_, rfl, ?_⟩
      rw [decide_eq_true_eq]
      exact ⟨fun h => ⟨by simp, hv, by omega⟩, fun h => by have := h.2.2; omega⟩
    | cons x xs ih =>
      intro i hi
      obtain ⟨hli, hx, hd⟩ := drop_cons_is hi
      rw [waits_all.r1, may_tells k (by omega), Option.bind_some]
      cases hm : MAY x with
      | false => exact ⟨false, rfl, ⟨(fun h => by cases h), fun h => by have := h.1 x (by simp); rw [hm] at this; cases this⟩⟩
      | true =>
        rw [if_pos rfl, if_pos (by omega)]
        simp only [Int.toNat_natCast, take_drop0]
        rw [has_tells k _ _ (by rw [List.length_take]; omega) (by rw [List.length_take]; omega), Option.bind_some]
        cases ha : (l.take i).any (lk x) with
        | true => exact ⟨false, rfl, ⟨(fun h => by cases h), fun h => by have := h.2.1 i x (Nat.le_refl _) hx; rw [ha] at this; cases this⟩⟩
        | false =>
          obtain ⟨b, h1, h2⟩ := ih (i + 1) hd
          refine ⟨b, h1, h2.trans ⟨fun h => ⟨?_, fun j y hj hy => ?_, h.2.2⟩, fun h => ⟨fun y hy => h.1 y (by simp [hy]), fun j y hj hy => h.2.1 j y (by omega) hy, h.2.2⟩⟩⟩
          · intro y hy
            rcases List.mem_cons.1 hy with rfl | hy
            · exact hm
            · exact h.1 y hy
          · rcases Nat.lt_or_ge i j with h3 | h3
            · exact h.2.1 j y h3 hy
            · obtain rfl : j = i := by omega
              rw [hx] at hy
              obtain rfl := Option.some.inj hy
              exact ha
  unfold waits_all.f
  have := waits_all.r1_eq k l (by omega) k 0 (by omega) (by omega)
  rw [show ((0 : Nat) : Int) = 0 from rfl, List.drop_zero] at this
  rw [this]
  obtain ⟨b, h1, h2⟩ := key l 0 rfl
  exact ⟨b, h1, h2.trans ⟨fun h => ⟨h.2.2, h.1, pw_any.1 fun j x hx => h.2.1 j x (Nat.zero_le _) hx⟩, fun h => ⟨h.2.1, fun j x _ hx => pw_any.2 h.2.2 j x hx, h.1⟩⟩⟩
def shorts (l : List S25) : Prop := ∀ x ∈ l, x.f0.size ≤ 18

/-! ### lines in order -/
theorem sorted_tells (k : Nat) (hk : 4 ≤ k) (l : List S25) (hs : l.length < 1000000) (hk2 : l.length < k) : ∃ b, slices_IsSortedFunc_api_Line_api_Line.f k l = some b ∧ (b = true ↔ ∀ (i : Nat) (x y : S25), l[i]? = some x → l[i + 1]? = some y → ¬ lt y x) := by
  have key : ∀ (n m : Nat), n < l.length → n < m → ∃ b, slices_IsSortedFunc_api_Line_api_Line.l1 k l m (n : Int) = some b ∧ (b = true ↔ ∀ (i : Nat) (x y : S25), i + 1 ≤ n → l[i]? = some x → l[i + 1]? = some y → ¬ lt y x) := by
    intro n
    induction n with
    | zero =>
      intro m hn hm
      obtain ⟨m, rfl⟩ : ∃ q, m = q + 1 := ⟨m - 1, by omega⟩
      exact ⟨true, rfl, ⟨fun _ i x y h => by omega, fun _ => rfl⟩⟩
    | succ n ih =>
      intro m hn hm
      obtain ⟨m, rfl⟩ : ∃ q, m = q + 1 := ⟨m - 1, by omega⟩
      have e1 : wrap64 (((n + 1 : Nat) : Int) - 1) = (n : Int) := by unfold wrap64; omega
      obtain ⟨c, hc1, hc2⟩ := cmp_is k hk l[n + 1] l[n]
      rw [slices_IsSortedFunc_api_Line_api_Line.l1, if_pos (by omega), if_pos (by omega), Int.toNat_natCast, List.getElem?_eq_getElem hn, Option.bind_some, e1, if_pos (by omega), Int.toNat_natCast, List.getElem?_eq_getElem (by omega), Option.bind_some, hc1, Option.bind_some]
      by_cases hc : c < 0
      · rw [if_pos hc]
        refine ⟨false, rfl, ⟨(fun h => by cases h), fun h => absurd (hc2.1 hc) (h n _ _ (Nat.le_refl _) (List.getElem?_eq_getElem (by omega)) (List.getElem?_eq_getElem hn))⟩⟩
      · rw [if_neg hc]
        obtain ⟨b, h1, h2⟩ := ih m (by omega) (by omega)
        refine ⟨b, h1, h2.trans ⟨fun h i x y hi hx hy => ?_, fun h i x y hi hx hy => h i x y (by omega) hx hy⟩⟩
        rcases Nat.lt_or_ge (i + 1) (n + 1) with h3 | h3
        · exact h i x y (by omega) hx hy
        · obtain rfl : i = n := by omega
          rw [List.getElem?_eq_getElem hn] at hy
          rw [List.getElem?_eq_getElem (by omega)] at hx
          obtain rfl := Option.some.inj hx
          obtain rfl := Option.some.inj hy
          exact fun h4 => hc (hc2.2 h4)
  unfold slices_IsSortedFunc_api_Line_api_Line.f
  rcases Nat.eq_zero_or_pos l.length with h0 | h0
  · have e : l = [] := List.eq_nil_of_length_eq_zero h0
    subst e
    obtain ⟨k, rfl⟩ : ∃ q, k = q + 1 := ⟨k - 1, by omega⟩
    exact ⟨true, by rw [slices_IsSortedFunc_api_Line_api_Line.l1, if_neg (by simp only [List.length_nil]; unfold wrap64; omega)], ⟨fun _ i x y h => by simp at h, fun _ => rfl⟩⟩
  · have e1 : wrap64 ((l.length : Int) - 1) = ((l.length - 1 : Nat) : Int) := by unfold wrap64; omega
    rw [e1]
    obtain ⟨b, h1, h2⟩ := key (l.length - 1) k (by omega) (by omega)
    refine ⟨b, h1, h2.trans ⟨fun h i x y hx hy => h i x y ?_ hx hy, fun h i x y _ hx hy => h i x y hx hy⟩⟩
    have := (List.getElem?_eq_some_iff.1 hy).1
    omega
def Up (l : List S25) : Prop := l.Pairwise lt
instance (l : List S25) : Decidable (Up l) := by unfold Up; exact inferInstance
/-- Which indexes may be. -/
def Rt (l : List S25) : Prop := AL l ∧ Up l
instance (l : List S25) : Decidable (Rt l) := by unfold Rt; exact inferInstance
theorem up_of {l : List S25} (h : l.Pairwise (fun a b => lk a b = false)) (h2 : l.Pairwise (fun a b => ¬ lt b a)) : Up l := by
  refine pw_of_get fun i j x y hij hx hy => ?_
  by_cases h3 : lt x y
  · exact h3
  · exact absurd (lt_tri h3 (pw_get h2 hij hx hy)) (lk_ne (pw_get h hij hx hy)).2.2
theorem right_tells (k : Nat) (hk : 100 ≤ k) (l : List S25) (hl : l.length ≤ 90) : waits_Right.f k l = some (decide (Rt l)) := by
  refine some_dec ?_
  unfold waits_Right.f Rt
  rw [all_tells k hk l hl, Option.bind_some]
  by_cases h : AL l
  · rw [decide_eq_true h, if_pos rfl]
    obtain ⟨b, h1, h2⟩ := sorted_tells k (by omega) l (by omega) (by omega)
    rw [h1, Option.bind_some]
    refine ⟨b, rfl, h2.trans ⟨fun h3 => ⟨h, ?_⟩, fun h3 i x y hx hy => lt_asymm (pw_get h3.2 (Nat.lt_succ_self i) hx hy)⟩⟩
    refine pw_of_adj (R := lt) (fun h1 h2 => lt_trans h1 h2) fun i x y hx hy => ?_
    by_cases h4 : lt x y
    · exact h4
    · exact absurd (lt_tri h4 (h3 i x y hx hy)) (lk_ne (pw_get h.2.2 (Nat.lt_succ_self i) hx hy)).2.2
  · rw [decide_eq_false h]
    exact ⟨false, rfl, ⟨(fun h => by cases h), fun h2 => absurd h2.1 h⟩⟩
theorem AL_perm {l l' : List S25} (h : l.Perm l') (hA : AL l) : AL l' :=
  ⟨by rw [← h.length_eq]; exact hA.1, fun x hx => hA.2.1 x (h.mem_iff.2 hx), (h.pairwise_iff (fun {a b} q => by rw [lk_comm]; exact q)).1 hA.2.2⟩
theorem up_eq {l l' : List S25} (h1 : Up l) (h2 : Up l') (hm : ∀ x, x ∈ l ↔ x ∈ l') : l = l' := eq_of_rise (R := lt) (fun a b h1 h2 => lt_asymm h1 h2) l l' h1 h2 hm
/-- Lines, in order. -/
def srt (l : List S25) : List S25 := l.mergeSort fun x y => !decide (lt y x)
theorem srt_perm (l : List S25) : (srt l).Perm l := List.mergeSort_perm l _
theorem srt_up {l : List S25} (h : AL l) : Up (srt l) := by
  refine up_of (AL_perm (srt_perm l).symm h).2.2 ?_
  have := List.pairwise_mergeSort (le := fun x y : S25 => !decide (lt y x)) (fun a b c h1 h2 => ?_) (fun a b => ?_) l
  · exact this.imp fun {a b} h => by simpa using h
  · simp only [Bool.not_eq_true', decide_eq_false_iff_not] at *
    intro h3
    by_cases h4 : lt b a
    · exact h1 h4
    · by_cases h5 : lt a b
      · exact h2 (lt_trans h3 h5)
      · have := lt_tri h4 h5
        subst this
        exact h2 h3
  · by_cases h : lt b a
    · have := lt_asymm h
      simp [h, this]
    · simp [h]
theorem srt_is {l l' : List S25} (h : AL l) (h1 : Up l') (hm : ∀ x, x ∈ l' ↔ x ∈ l) : srt l = l' := up_eq (srt_up h) h1 fun x => ((srt_perm l).mem_iff).trans (hm x).symm
theorem sort_tells (k : Nat) (hk : 4 ≤ k) (l : List S25) (hs : l.length < 1000000) : slices_SortFunc_api_Line_api_Line.f k l = some (srt l) := by
  unfold slices_SortFunc_api_Line_api_Line.f srt
  rw [if_pos ⟨hk, by omega⟩]
  congr 1
  congr 1
  funext x y
  obtain ⟨c, h1, h2⟩ := cmp_is k hk y x
  have e : (slices_SortFunc_api_Line_api_Line.p k y x).getD 0 = c := by
    unfold slices_SortFunc_api_Line_api_Line.p
    rw [h1, Option.getD_some]
  congr 1
  rw [decide_eq_decide, e]
  exact h2
theorem make_tells (k : Nat) (hk : 100 ≤ k) (l : List S25) (hl : l.length ≤ 90) : waits_Make.f k l = some (if AL l then (srt l, 0) else ([], 1)) := by
  unfold waits_Make.f slices_Clone_api_Line_api_Line.f
  rw [all_tells k hk l hl, Option.bind_some]
  by_cases h : AL l
  · rw [decide_eq_true h, if_pos rfl, if_pos (by omega), Option.bind_some, sort_tells k (by omega) l (by omega), Option.bind_some, if_pos h]
  · rw [decide_eq_false h, if_neg (by simp), if_neg h]
/-- A line put in. -/
def ins (x : S25) (l : List S25) : List S25 := l.takeWhile (fun y => decide (lt y x)) ++ [x] ++ l.dropWhile (fun y => decide (lt y x))
theorem mem_ins {x y : S25} {l : List S25} : y ∈ ins x l ↔ y = x ∨ y ∈ l := by
  unfold ins
  rw [List.mem_append, List.mem_append, List.mem_singleton, ← mem_tw_dw (fun y => decide (lt y x)) l y]
  grind
theorem ins_len (x : S25) (l : List S25) : (ins x l).length = l.length + 1 := by
  have h5 := tw_len_le (fun y => decide (lt y x)) l
  unfold ins
  rw [← drop_tw]
  simp only [List.length_append, List.length_drop, List.length_cons, List.length_nil]
  omega
theorem downs {l : List S25} (h : Up l) (x : S25) : Downs (fun y => decide (lt y x)) l := fun i j a b hij ha hb hp => by
  rw [decide_eq_true_eq] at *
  exact lt_trans (pw_get h hij ha hb) hp
theorem ins_up {x : S25} {l : List S25} (h : Up l) (hn : ∀ y ∈ l, y ≠ x) : Up (ins x l) := by
  have h1 : ∀ y ∈ l.takeWhile (fun y => decide (lt y x)), lt y x ∧ y ∈ l := fun y hy => ⟨of_decide_eq_true (mem_tw (p := fun y => decide (lt y x)) hy), (mem_tw_dw (fun y => decide (lt y x)) l y).1 (.inl hy)⟩
  have h2 : ∀ y ∈ l.dropWhile (fun y => decide (lt y x)), lt x y ∧ y ∈ l := fun y hy => by
    have hy2 := (mem_tw_dw (fun y => decide (lt y x)) l y).1 (.inr hy)
    have h3 := mem_dw (downs h x) hy
    rw [decide_eq_false_iff_not] at h3
    refine ⟨?_, hy2⟩
    by_cases h4 : lt x y
    · exact h4
    · exact absurd (lt_tri h3 h4) (hn y hy2)
  have hsplit : (l.takeWhile (fun y => decide (lt y x)) ++ l.dropWhile (fun y => decide (lt y x))).Pairwise lt := by rw [List.takeWhile_append_dropWhile]; exact h
  rw [List.pairwise_append] at hsplit
  unfold ins Up
  rw [List.append_assoc, List.pairwise_append]
  refine ⟨hsplit.1, ?_, fun a ha b hb => ?_⟩
  · rw [List.singleton_append, List.pairwise_cons]
    exact ⟨fun y hy => (h2 y hy).1, hsplit.2.1⟩
  · rcases List.mem_cons.1 hb with rfl | hb
    · exact (h1 a ha).1
    · exact hsplit.2.2 a ha b hb
def rmk (l : List S25) : List S25 := l.foldl (fun o x => ins x o) []

/-! ### the document's index -/
theorem rmk_is : ∀ (l o : List S25), l.Pairwise (fun a b => lk a b = false) → (∀ x ∈ l, ∀ y ∈ o, y ≠ x) → Up o → Up (l.foldl (fun o x => ins x o) o) ∧ ∀ z, z ∈ l.foldl (fun o x => ins x o) o ↔ z ∈ l ∨ z ∈ o
  | [], o, _, _, h => ⟨h, by simp⟩
  | x :: l, o, hl, hn, h => by
    rw [List.pairwise_cons] at hl
    have h2 : ∀ y ∈ l, ∀ z ∈ ins x o, z ≠ y := fun y hy z hz => by
      rcases mem_ins.1 hz with rfl | hz
      · exact (lk_ne (hl.1 y hy)).2.2
      · exact hn y (by simp [hy]) z hz
    have ih := rmk_is l (ins x o) hl.2 h2 (ins_up h fun y hy => hn x (by simp) y hy)
    refine ⟨ih.1, fun z => (ih.2 z).trans ?_⟩
    rw [mem_ins, List.mem_cons]
    grind
theorem rmk_srt {l : List S25} (h : AL l) : rmk l = srt l := by
  have := rmk_is l [] h.2.2 (fun _ _ y hy => by cases hy) List.Pairwise.nil
  exact (srt_is h this.1 fun x => by have := this.2 x; simpa using this).symm
instance : DecidableEq S25 := fun a b => decidable_of_iff (a.f0 = b.f0 ∧ a.f1 = b.f1 ∧ a.f2 = b.f2 ∧ a.f3 = b.f3) ⟨fun h => by cases a; cases b; simp_all, fun h => by subst h; exact ⟨rfl, rfl, rfl, rfl⟩⟩
theorem rmk_len (l : List S25) : (rmk l).length = l.length := by
  have key : ∀ (l o : List S25), (l.foldl (fun o x => ins x o) o).length = o.length + l.length := by
    intro l
    induction l with
    | nil => intro o; rfl
    | cons x l ih =>
      intro o
      rw [List.foldl_cons, ih, ins_len, List.length_cons]
      omega
  have := key l []
  simpa [rmk] using this
theorem AL_more {l : List S25} {x : S25} (h : AL l) (hm : MAY x = true) (hn : l.any (lk x) = false) (hl : l.length < 32) : AL (l ++ [x]) := by
  refine ⟨by simp; omega, fun y hy => ?_, ?_⟩
  · rcases List.mem_append.1 hy with hy | hy
    · exact h.2.1 y hy
    · obtain rfl := List.mem_singleton.1 hy
      exact hm
  · rw [List.pairwise_append]
    refine ⟨h.2.2, by simp, fun a ha b hb => ?_⟩
    obtain rfl := List.mem_singleton.1 hb
    rw [List.any_eq_false] at hn
    rw [lk_comm]
    simpa using hn a ha
def wt (x : S25) : S23 := ⟨x.f1, x.f2, x.f3⟩
theorem of_tells (k : Nat) (hk : 100 ≤ k) (l : List S25) (hl : l.length ≤ 80) (s : ByteArray) : waits_Of.f k l s = some (if Rt l then ((l.filter (fun x => x.f0 == s)).map wt, 0) else ([], 1)) := by
  have key : ∀ (xs : List S25) (o : List S23), o.length + xs.length ≤ 100 → waits_Of.r1 k s l xs o = some (o ++ (xs.filter (fun x => x.f0 == s)).map wt, 0) := by
    intro xs
    induction xs with
    | nil => intro o _; rw [waits_Of.r1]; simp
    | cons x xs ih =>
      intro o ho
      simp only [List.length_cons] at ho
      rw [waits_Of.r1]
      by_cases h : (x.f0 == s) = true
      · rw [if_pos h, if_pos (by simp; omega), ih _ (by simp; omega), List.filter_cons_of_pos (p := fun x : S25 => x.f0 == s) h, List.map_cons, List.append_assoc]
        rfl
      · rw [if_neg h, ih _ (by omega), List.filter_cons_of_neg (p := fun x : S25 => x.f0 == s) h]
  unfold waits_Of.f
  rw [right_tells k hk l (by omega), Option.bind_some]
  by_cases h : Rt l
  · rw [decide_eq_true h, if_pos rfl, if_pos h]
    have := waits_Of.r1_eq k s l (by omega) k 0 [] (by omega) (by omega)
    rw [show ((0 : Nat) : Int) = 0 from rfl, List.drop_zero] at this
    rw [this, key l [] (by simp; omega), List.nil_append]
  · rw [decide_eq_false h, if_neg (by simp), if_neg h]
theorem alive_tells (k : Nat) (hk : 100 ≤ k) : tarrylaw09_alive.f k = some true := by
  unfold tarrylaw09_alive.f
  generalize hA : (⟨(⟨#[99, 117, 112]⟩ : ByteArray), 1, 1, 1⟩ : S25) = A
  generalize hB : (⟨(⟨#[99, 117, 112]⟩ : ByteArray), 0, 7, 2⟩ : S25) = B
  have h1 : AL [A, B] := by subst hA hB; decide +kernel
  have h2 : AL [B, A] := AL_perm (List.Perm.swap B A []) h1
  have h3 : Up [B, A] := by subst hA hB; decide +kernel
  have h4 : srt [A, B] = [B, A] := srt_is h1 h3 fun x => by simp [or_comm]
  have h5 : [B, A].filter (fun x => x.f0 == (⟨#[99, 117, 112]⟩ : ByteArray)) = [B, A] := by
    rw [List.filter_eq_self]
    intro x hx
    rw [beq_is, decide_eq_true_eq]
    simp only [List.mem_cons, List.not_mem_nil, or_false] at hx
    rcases hx with rfl | rfl
    · rw [← hB]
    · rw [← hA]
  rw [make_tells k hk _ (by simp), if_pos h1, Option.bind_some, h4]
  simp only
  rw [of_tells k hk _ (by simp), if_pos ⟨h2, h3⟩, Option.bind_some, h5]
  subst hA hB
  rfl
theorem cut_tells (s : S25) : ∃ q : S25, tarrylaw09_cut.f s.f0 s.f1 s.f2 s.f3 = some (q.f0, q.f1, q.f2, q.f3) ∧ q.f0.size ≤ 18 := by
  have c : 0 ≤ mn (s.f0.size : Int) 18 ∧ mn (s.f0.size : Int) 18 ≤ s.f0.size ∧ (s.f0.extract 0 (mn (s.f0.size : Int) 18).toNat).size ≤ 18 := by
    rw [ByteArray.size_extract]
    unfold mn
    split <;> refine ⟨by omega, by omega, by omega⟩
  refine ⟨⟨s.f0.extract 0 (mn (s.f0.size : Int) 18).toNat, s.f1, s.f2, s.f3⟩, ?_, c.2.2⟩
  unfold tarrylaw09_cut.f
  rw [if_pos c.1, if_pos c.2.1]
theorem few_tells (k : Nat) (hk : 100 ≤ k) (l : List S25) : ∃ q, tarrylaw09_few.f k l = some q ∧ q.length ≤ 34 ∧ shorts q := by
  have k1 : ∀ (xs acc : List S25), xs.length + acc.length ≤ 34 → shorts acc → ∃ q, tarrylaw09_few.r1 k l xs acc = some q ∧ q.length ≤ 34 ∧ shorts q := by
    intro xs
    induction xs with
    | nil => intro acc h1 h2; exact ⟨acc, rfl, by simpa using h1, h2⟩
    | cons x xs ih =>
      intro acc h1 h2
      simp only [List.length_cons] at h1
      obtain ⟨q, e1, e2⟩ := cut_tells x
      rw [tarrylaw09_few.r1, e1, Option.bind_some]
      simp only
      rw [if_pos (by simp; omega)]
      refine ih _ (by simp; omega) fun y hy => ?_
      rcases List.mem_append.1 hy with hy | hy
      · exact h2 y hy
      · obtain rfl := List.mem_singleton.1 hy
        exact e2
  obtain ⟨a1, a2, a3⟩ : 0 ≤ mn (l.length : Int) 34 ∧ mn (l.length : Int) 34 ≤ l.length ∧ (mn (l.length : Int) 34).toNat ≤ 34 := by unfold mn; split <;> refine ⟨by omega, by omega, by omega⟩
  unfold tarrylaw09_few.f
  have hl : ((l.take (mn (l.length : Int) 34).toNat).drop 0).length ≤ 34 := by rw [List.drop_zero, List.length_take]; omega
  have := tarrylaw09_few.r1_eq k l (by omega) k 0 [] (by omega) (by omega)
  rw [show ((0 : Nat) : Int) = 0 from rfl, List.drop_zero (l := (l.take (mn (l.length : Int) 34).toNat).drop 0)] at this
  rw [if_pos a1, if_pos a2, this]
  exact k1 _ [] (by simpa using hl) (fun y hy => by cases hy)

/-! ### an order's line -/
def isO (a : Int) (x : S25) : Bool := x.f3 == a
def ix (a : Int) (l : List S25) : Nat := (l.takeWhile (fun x => !isO a x)).length
def wo (a : Int) (l : List S25) : List S25 := l.filter (fun x => !isO a x)
theorem index_tells (k : Nat) (a : Int) (l : List S25) (hk : l.length < k) (hs : l.length < 1000000) : slices_IndexFunc_api_Line_api_Line_s42.f k l a = some (if l.any (isO a) = true then (ix a l : Int) else -1) := by
  have key : ∀ (xs : List S25) (i : Nat), slices_IndexFunc_api_Line_api_Line_s42.r1 k a l xs i = some (if xs.any (isO a) = true then ((i + ix a xs : Nat) : Int) else -1) := by
    intro xs
    induction xs with
    | nil => intro i; rfl
    | cons x xs ih =>
      intro i
      have e : waits_at_1.f x.f0 x.f1 x.f2 x.f3 a = some (isO a x) := rfl
      rw [slices_IndexFunc_api_Line_api_Line_s42.r1, e, Option.bind_some, List.any_cons]
      unfold ix at *
      cases h : isO a x with
      | true => rw [if_pos rfl, Bool.true_or, if_pos rfl, List.takeWhile_cons_of_neg (by simp [h])]; rfl
      | false =>
        rw [if_neg (by simp), Bool.false_or, ih (i + 1), List.takeWhile_cons_of_pos (by simp [h]), List.length_cons]
        rw [show i + 1 + (xs.takeWhile fun x => !isO a x).length = i + ((xs.takeWhile fun x => !isO a x).length + 1) by omega]
  unfold slices_IndexFunc_api_Line_api_Line_s42.f
  have := slices_IndexFunc_api_Line_api_Line_s42.r1_eq k a l (by omega) k 0 (by omega) (by omega)
  rw [show ((0 : Nat) : Int) = 0 from rfl, List.drop_zero] at this
  rw [this, key l 0, Nat.zero_add]
theorem at_tells (k : Nat) (hk : 100 ≤ k) (a : Int) (l : List S25) (hl : l.length ≤ 80) : waits_at.f k l a = some (if Rt l then (if l.any (isO a) = true then ((ix a l : Int), 0) else (0, 8)) else (0, 1)) := by
  unfold waits_at.f
  rw [right_tells k hk l (by omega), Option.bind_some]
  by_cases h : Rt l
  · rw [decide_eq_true h, if_pos rfl, index_tells k a l (by omega) (by omega), Option.bind_some, if_pos h]
    by_cases h2 : l.any (isO a) = true
    · rw [if_pos h2, if_pos h2, if_neg (by omega)]
    · rw [if_neg h2, if_neg h2, if_pos (by omega)]
  · rw [decide_eq_false h, if_neg (by simp), if_neg h]
theorem pw_ne {l : List S25} (h : AL l) {i j : Nat} {x y : S25} (hij : i ≠ j) (hx : l[i]? = some x) (hy : l[j]? = some y) : lk x y = false := by
  rcases Nat.lt_or_ge i j with h1 | h1
  · exact pw_get h.2.2 h1 hx hy
  · rw [lk_comm]
    exact pw_get h.2.2 (by omega) hy hx
theorem wo_le (a : Int) (l : List S25) : (wo a l).length ≤ l.length := List.length_filter_le _ _
theorem AL_sub {l l' : List S25} (h : AL l) (hs : l'.Sublist l) : AL l' := ⟨Nat.le_trans hs.length_le h.1, fun x hx => h.2.1 x (hs.subset hx), h.2.2.sublist hs⟩
theorem Rt_sub {l l' : List S25} (h : Rt l) (hs : l'.Sublist l) : Rt l' := ⟨AL_sub h.1 hs, h.2.sublist hs⟩
theorem wo_sub (a : Int) (l : List S25) : (wo a l).Sublist l := List.filter_sublist
theorem found {l : List S25} {a : Int} (h : AL l) (ha : l.any (isO a) = true) : ∃ x, l[ix a l]? = some x ∧ x.f3 = a ∧ x ∈ l ∧ ix a l < l.length ∧ l.take (ix a l) ++ l.drop (ix a l + 1) = wo a l ∧ ∀ z ∈ wo a l, lk x z = false := by
  obtain ⟨y, hy, hy2⟩ := List.any_eq_true.1 ha
  have hlt : ix a l < l.length := by
    refine Nat.lt_of_not_le fun hge => ?_
    have h1 : l.takeWhile (fun x => !isO a x) = l := by
      rw [← take_tw]
      exact List.take_of_length_le hge
    have := mem_tw (p := fun x => !isO a x) (h1.symm ▸ hy)
    rw [hy2] at this
    cases this
  have hx := List.getElem?_eq_getElem hlt
  generalize l[ix a l] = x at hx
  have hxo : isO a x = true := by
    have := tw_at (fun x => !isO a x) l x hx
    simpa using this
  have hxa : x.f3 = a := by simpa [isO] using hxo
  have hsplit : l = l.take (ix a l) ++ x :: l.drop (ix a l + 1) := by
    conv => lhs; rw [← List.take_append_drop (ix a l) l]
    rw [List.drop_eq_getElem_cons hlt]
    congr 2
    exact Option.some.inj ((List.getElem?_eq_getElem hlt).symm.trans hx)
  have hothers : ∀ (j : Nat) (z : S25), j ≠ ix a l → l[j]? = some z → isO a z = false ∧ lk x z = false := by
    intro j z hj hz
    have h2 := pw_ne h (fun e => hj e.symm) hx hz
    refine ⟨?_, h2⟩
    have := (lk_ne h2).2.1
    rw [hxa] at this
    simp only [isO, beq_eq_false_iff_ne]
    exact fun e => this e.symm
  have hw : l.take (ix a l) ++ l.drop (ix a l + 1) = wo a l := by
    unfold wo
    conv => rhs; rw [hsplit]
    rw [List.filter_append, List.filter_cons_of_neg (by simp [hxo])]
    congr 1
    · symm
      rw [List.filter_eq_self]
      intro z hz
      obtain ⟨j, hj⟩ := List.getElem?_of_mem hz
      rw [List.getElem?_take] at hj
      split at hj
      · rename_i h3
        rw [(hothers j z (by omega) hj).1]
        rfl
      · cases hj
    · symm
      rw [List.filter_eq_self]
      intro z hz
      obtain ⟨j, hj⟩ := List.getElem?_of_mem hz
      rw [List.getElem?_drop] at hj
      rw [(hothers _ z (by omega) hj).1]
      rfl
  refine ⟨x, hx, hxa, List.mem_of_getElem? hx, hlt, hw, fun z hz => ?_⟩
  have hz2 := (wo_sub a l).subset hz
  have hz3 := (List.mem_filter.1 hz).2
  obtain ⟨j, hj⟩ := List.getElem?_of_mem hz2
  by_cases e : j = ix a l
  · subst e
    rw [hx] at hj
    obtain rfl := Option.some.inj hj
    rw [hxo] at hz3
    cases hz3
  · exact (hothers j z e hj).2
theorem find_tells (k : Nat) (hk : 100 ≤ k) (a : Int) (l : List S25) (hl : l.length ≤ 80) : waits_Find.f k l a = some (if Rt l then (if l.any (isO a) = true then (l[ix a l]?).elim (⟨#[]⟩, 0, 0, 0, 0) (fun x => (x.f0, x.f1, x.f2, x.f3, 0)) else (⟨#[]⟩, 0, 0, 0, 8)) else (⟨#[]⟩, 0, 0, 0, 1)) := by
  unfold waits_Find.f
  rw [at_tells k hk a l hl, Option.bind_some]
  by_cases h : Rt l
  · rw [if_pos h, if_pos h]
    by_cases h2 : l.any (isO a) = true
    · obtain ⟨x, h3, h4, h5, h6, h7, _⟩ := found h.1 h2
      rw [if_pos h2, if_pos h2]
      simp only
      rw [if_pos True.intro, if_pos (by omega), Int.toNat_natCast, h3]
      rfl
    · rw [if_neg h2, if_neg h2]
      simp only
      rw [if_neg (by omega)]
  · rw [if_neg h, if_neg h]
    simp only
    rw [if_neg (by omega)]
/-- A line in another class. -/
def inC (x : S25) (c : Int) : S25 := ⟨x.f0, c, x.f2, x.f3⟩
theorem set_perm {l : List S25} {i : Nat} {y : S25} (h : i < l.length) : (l.set i y).Perm (l.take i ++ l.drop (i + 1) ++ [y]) := by
  rw [List.set_eq_take_append_cons_drop, if_pos h]
  exact List.perm_middle.trans (List.perm_append_singleton y _).symm
theorem srt_same {l l' : List S25} (h : AL l) (hp : l.Perm l') : srt l = srt l' :=
  srt_is h (srt_up (AL_perm hp h)) fun x => ((srt_perm l').mem_iff).trans hp.mem_iff.symm
theorem moved {l : List S25} {a c : Int} (h : AL l) (ha : l.any (isO a) = true) (hc : 0 ≤ c ∧ c < 4) {x : S25} (hx : l[ix a l]? = some x) : AL (wo a l ++ [inC x c]) ∧ srt (l.set (ix a l) (inC x c)) = srt (wo a l ++ [inC x c]) ∧ AL (l.set (ix a l) (inC x c)) := by
  obtain ⟨x', h3, h4, h5, h6, h7, h8⟩ := found h ha
  rw [hx] at h3
  obtain rfl := Option.some.inj h3
  have hm : MAY (inC x c) = true := by
    have := h.2.1 x h5
    unfold MAY wq inC at *
    simp only [Bool.and_eq_true, decide_eq_true_eq] at *
    exact ⟨this.1, by omega⟩
  have hn : (wo a l).any (lk (inC x c)) = false := by
    rw [List.any_eq_false]
    intro z hz
    have := h8 z hz
    unfold lk inC at *
    simpa using this
  have hl : (wo a l).length < 32 := by
    have := congrArg List.length h7
    rw [List.length_append, List.length_take, List.length_drop] at this
    have := h.1
    omega
  have hA := AL_more (AL_sub h (wo_sub a l)) hm hn hl
  have hp := set_perm (y := inC x c) h6
  rw [h7] at hp
  have hA2 := AL_perm hp.symm hA
  exact ⟨hA, srt_same hA2 hp, hA2⟩
theorem move_tells (k : Nat) (hk : 100 ≤ k) (a c : Int) (l : List S25) (hl : l.length ≤ 80) : waits_Move.f k l a c = some (if c < 0 ∨ 4 ≤ c then ([], 1) else if Rt l then (if l.any (isO a) = true then (l[ix a l]?).elim ([], 0) (fun x => (srt (wo a l ++ [inC x c]), 0)) else ([], 8)) else ([], 1)) := by
  unfold waits_Move.f slices_Clone_api_Line_api_Line.f
  by_cases h0 : c < 0
  · rw [if_pos h0, if_pos (.inl h0)]
  · rw [if_neg h0]
    by_cases h1 : c ≥ 4
    · rw [if_pos h1, if_pos (.inr h1)]
    · rw [if_neg h1, if_neg (show ¬ (c < 0 ∨ 4 ≤ c) by omega), at_tells k hk a l hl, Option.bind_some]
      by_cases h : Rt l
      · rw [if_pos h, if_pos h]
        by_cases h2 : l.any (isO a) = true
        · obtain ⟨x, h3, h4, h5, h6, h7, _⟩ := found h.1 h2
          obtain ⟨m1, m2, m3⟩ := moved (c := c) h.1 h2 (by omega) h3
          have := make_tells k hk (l.set (ix a l) (inC x c)) (by rw [List.length_set]; omega)
          rw [if_pos m3, m2] at this
          unfold inC at this
          rw [if_pos h2, if_pos h2]
          simp only
          rw [if_pos True.intro, if_pos (by omega), Option.bind_some, if_pos (by omega), Int.toNat_natCast, h3, Option.bind_some, this]
          rfl
        · rw [if_neg h2, if_neg h2]
          simp only
          rw [if_neg (by omega)]
      · rw [if_neg h, if_neg h]
        simp only
        rw [if_neg (by omega)]
theorem fair_loop (k : Nat) (hk : 4 ≤ k) (a c : Int) (F : List S25) (y : S25) (hy : y ∈ F) (hya : y.f3 = a) (hyc : y.f1 = c) (hA : AL F) (hU : Up F) (s : ByteArray) (hs : ∀ x ∈ F, x.f0 = s) : ∀ (xs : List S25) (i : Nat), F.drop i = xs → tarrylaw09_WaitsFair.r1 k a c (F.map wt) y.f2 (xs.map wt) i ((F.take i).any (isO a)) = some true := by
  have hsl := hA.1
  obtain ⟨p, hp⟩ := List.getElem?_of_mem hy
  have hone : ∀ (j : Nat) (z : S25), F[j]? = some z → z.f3 = a → j = p := by
    intro j z hz hza
    refine Decidable.byContradiction fun hne => ?_
    exact (lk_ne (pw_ne hA hne hz hp)).2.1 (hza.trans hya.symm)
  have hany : ∀ i, (F.take i).any (isO a) = decide (p < i) := by
    intro i
    by_cases h : p < i
    · rw [decide_eq_true h, List.any_eq_true]
      exact ⟨y, List.mem_of_getElem? (i := p) (by rw [List.getElem?_take, if_pos h]; exact hp), beq_iff_eq.2 hya⟩
    · rw [decide_eq_false h, List.any_eq_false]
      intro z hz hza
      obtain ⟨j, hj⟩ := List.getElem?_of_mem hz
      rw [List.getElem?_take] at hj
      split at hj
      · have := hone j z hj (beq_iff_eq.1 hza)
        omega
      · cases hj
  intro xs
  induction xs with
  | nil =>
    intro i hi
    rw [List.map_nil, tarrylaw09_WaitsFair.r1, hany, decide_eq_true]
    have := drop_nil_is hi
    have := (List.getElem?_eq_some_iff.1 hp).1
    omega
  | cons x xs ih =>
    intro i hi
    obtain ⟨hli, hx, hd⟩ := drop_cons_is hi
    have hxs := hs x (List.mem_of_getElem? hx)
    have hnext := ih (i + 1) hd
    have hbody : (if (wt x).f2 = a then (tarrylaw09_WaitsFair.r1 k a c (F.map wt) y.f2 (xs.map wt) (i + 1) true) else (if (wt x).f0 > c then (if true = (F.take i).any (isO a) then (tarrylaw09_WaitsFair.r1 k a c (F.map wt) y.f2 (xs.map wt) (i + 1) ((F.take i).any (isO a))) else none) else (if (wt x).f0 = c then (if (decide ((wt x).f1 > y.f2)) = (F.take i).any (isO a) then (tarrylaw09_WaitsFair.r1 k a c (F.map wt) y.f2 (xs.map wt) (i + 1) ((F.take i).any (isO a))) else none) else (if false = (F.take i).any (isO a) then (tarrylaw09_WaitsFair.r1 k a c (F.map wt) y.f2 (xs.map wt) (i + 1) ((F.take i).any (isO a))) else none)))) = some true := by
      show (if x.f3 = a then _ else (if x.f1 > c then _ else (if x.f1 = c then (if (decide (x.f2 > y.f2)) = _ then _ else none) else _))) = some true
      rw [hany] at hnext ⊢
      by_cases h3 : x.f3 = a
      · rw [if_pos h3]
        have := hone i x hx h3
        rw [decide_eq_true (by omega)] at hnext
        exact hnext
      · rw [if_neg h3]
        have hip : p ≠ i := fun e => h3 (by subst e; rw [hp] at hx; obtain rfl := Option.some.inj hx; exact hya)
        have e : decide (p < i + 1) = decide (p < i) := by rw [decide_eq_decide]; omega
        rw [e] at hnext
        have hlk := lk_ne (pw_ne hA hip hp hx)
        have hys := hs y hy
        have hq : p < i ↔ ql y x := by
          have hirr : ¬ sl s s := sl_irr s
          constructor
          · intro h
            rcases pw_get hU h hp hx with h4 | h4
            · rw [hys, hxs] at h4
              exact absurd h4 hirr
            · exact h4.2
          · intro h
            refine Decidable.byContradiction fun hge => ?_
            rcases pw_get hU (show i < p by omega) hx hp with h4 | h4
            · rw [hys, hxs] at h4
              exact absurd h4 hirr
            · exact ql_asymm h h4.2
        have h2 := hlk.1
        unfold ql at hq
        by_cases h5 : x.f1 > c
        · rw [if_pos h5]
          have : p < i := hq.2 (by omega)
          rw [decide_eq_true this] at hnext ⊢
          rw [if_pos rfl]
          exact hnext
        · rw [if_neg h5]
          by_cases h6 : x.f1 = c
          · rw [if_pos h6, if_pos]
            · exact hnext
            · rw [decide_eq_decide, hq]
              omega
          · rw [if_neg h6]
            have : ¬ p < i := fun h => by have := hq.1 h; omega
            rw [decide_eq_false this] at hnext ⊢
            rw [if_pos rfl]
            exact hnext
    rw [List.map_cons, tarrylaw09_WaitsFair.r1]
    by_cases h0 : i = 0
    · subst h0
      rw [if_neg (by decide)]
      exact hbody
    · have hw : wrap64 ((i : Int) - 1) = ((i - 1 : Nat) : Int) := by rw [w64n (by omega) (by omega)]; omega
      have hx1 : F[i - 1]? = some F[i - 1] := List.getElem?_eq_getElem (by omega)
      rw [if_pos (by omega), hw, if_pos (by omega), Int.toNat_natCast, List.getElem?_map, hx1, Option.map_some, Option.bind_some]
      have hless := qless_is k hk F[i - 1] x
      have hql : ql F[i - 1] x := by
        rcases pw_get hU (show i - 1 < i by omega) hx1 hx with h4 | h4
        · rw [hs _ (List.getElem_mem _), hxs] at h4
          exact absurd h4 (sl_irr s)
        · exact h4.2
      rw [decide_eq_true hql] at hless
      rw [show queue_Less.f k (wt F[i - 1]).f0 (wt F[i - 1]).f1 (wt F[i - 1]).f2 (wt x).f0 (wt x).f1 (wt x).f2 = some true from hless, Option.bind_some, if_pos rfl]
      exact hbody
theorem WaitsFair : tarrylaw09_WaitsFair.Pure := by
  intro l0 a c _ _ _
  refine ⟨200, ?_⟩
  obtain ⟨l, e1, hl, hs⟩ := few_tells 200 (by decide) l0
  have hk : 100 ≤ 200 := by decide
  unfold tarrylaw09_WaitsFair.f
  rw [e1, Option.bind_some, move_tells 200 hk a c l (by omega), Option.bind_some, alive_tells 200 hk]
  by_cases h0 : c < 0 ∨ 4 ≤ c
  · rw [if_pos h0]
    rfl
  rw [if_neg h0]
  by_cases h : Rt l
  · rw [if_pos h]
    by_cases ha : l.any (isO a) = true
    · obtain ⟨x, h3, h4, h5, h6, h7, h8⟩ := found h.1 ha
      obtain ⟨hA, _, _⟩ := moved (c := c) h.1 ha (by omega) h3
      rw [if_pos ha, h3, Option.elim_some]
      have hR : Rt (srt (wo a l ++ [inC x c])) := ⟨AL_perm (srt_perm _).symm hA, srt_up hA⟩
      have hmem : ∀ z, z ∈ srt (wo a l ++ [inC x c]) ↔ z ∈ wo a l ∨ z = inC x c := fun z => by rw [(srt_perm _).mem_iff]; simp
      generalize hm : srt (wo a l ++ [inC x c]) = m at hR hmem
      have hml := hR.1.1
      have hya : (inC x c).f3 = a := h4
      have hany : m.any (isO a) = true := List.any_eq_true.2 ⟨inC x c, (hmem _).2 (.inr rfl), beq_iff_eq.2 hya⟩
      obtain ⟨z, g3, g4, g5, _⟩ := found hR.1 hany
      have hz : z = inC x c := by
        rcases (hmem z).1 g5 with h9 | h9
        · have := (List.mem_filter.1 h9).2
          simp [isO, g4] at this
        · exact h9
      subst hz
      dsimp only
      rw [if_pos rfl, find_tells 200 hk a m (by omega), Option.bind_some, if_pos hR, if_pos hany, g3, Option.elim_some]
      dsimp only
      rw [of_tells 200 hk m (by omega), Option.bind_some, if_pos hR]
      dsimp only
      rw [if_pos rfl, if_pos rfl, if_pos (show (inC x c).f1 = c from rfl), Option.bind_some, if_pos rfl]
      generalize hF : m.filter (fun z => z.f0 == (inC x c).f0) = F
      have hsub : F.Sublist m := hF ▸ List.filter_sublist
      have hFl := hsub.length_le
      have hin : inC x c ∈ F := by
        rw [← hF, List.mem_filter]
        exact ⟨g5, by rw [beq_is]; simp⟩
      have hall : ∀ z ∈ F, z.f0 = (inC x c).f0 := by
        intro z hz
        rw [← hF, List.mem_filter, beq_is] at hz
        exact of_decide_eq_true hz.2
      have h1 := fair_loop 200 (by decide) a c F (inC x c) hin hya rfl (AL_sub hR.1 hsub) (hR.2.sublist hsub) _ hall F 0 rfl
      have h2 := tarrylaw09_WaitsFair.r1_eq 200 a c (F.map wt) (inC x c).f2 (by rw [List.length_map]; omega) 200 0 false (by rw [List.length_map]; omega) (by omega)
      rw [show ((0 : Nat) : Int) = 0 from rfl, List.drop_zero] at h2
      rw [h2]
      exact h1
    · rw [if_neg ha]
      rfl
  · rw [if_neg h]
    rfl
end Go.Proofs.Ytdofmkbffffbpaa.Pure
