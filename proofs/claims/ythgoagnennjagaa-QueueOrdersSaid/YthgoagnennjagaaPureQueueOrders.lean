/- QueueOrders: what is pushed one by one, and popped one by one, is what is sorted, in whatever order all were pushed; no further condition. -/
import Derived.Test.YthgoagnennjagaaRQueueOrders
namespace Go.Proofs.Ythgoagnennjagaa.Pure
open Go Go.RowKit Go.Proofs.Ythgoagnennjagaa.PQueueOrders Go.Proofs.YthgoagnennjagaaV 
set_option linter.unusedSimpArgs false
set_option linter.unusedVariables false
theorem take_drop0 {α : Type} (l : List α) (i : Nat) : (l.take i).drop 0 = l.take i := rfl
theorem w64n {n : Int} (h1 : -9000000000000000000 ≤ n) (h2 : n ≤ 9000000000000000000) : wrap64 n = n := by unfold wrap64; omega
/-- A binary search's middle. -/
theorem mid_is {i j : Nat} (hi : i ≤ 1000000) (hj : j ≤ 1000000) : wrap64 ((IntKind.u64.wrap (wrap64 ((i : Int) + (j : Int)))).fdiv (2 ^ min (1 : Int).toNat IntKind.u64.bits)) = (((i + j) / 2 : Nat) : Int) := by
  have e1 : wrap64 ((i : Int) + (j : Int)) = ((i + j : Nat) : Int) := by unfold wrap64; omega
  have e2 : IntKind.u64.wrap ((i + j : Nat) : Int) = ((i + j : Nat) : Int) := by
    have h : IntKind.u64.wrap ((i + j : Nat) : Int) = ((i + j : Nat) : Int) % 18446744073709551616 := rfl
    rw [h]
    omega
  have e3 : (2 : Int) ^ min (1 : Int).toNat IntKind.u64.bits = 2 := by decide
  rw [e1, e2, e3, Int.fdiv_eq_ediv_of_nonneg _ (by decide)]
  unfold wrap64
  omega
/-- The things ahead of the first one that is not so. -/
theorem tw_len_le {α : Type} (p : α → Bool) (l : List α) : (l.takeWhile p).length ≤ l.length := by
  induction l with
  | nil => simp
  | cons x xs ih => rw [List.takeWhile_cons]; split <;> simp <;> omega
theorem tw_lt {α : Type} (p : α → Bool) : ∀ (l : List α) (i : Nat) (x : α), l[i]? = some x → i < (l.takeWhile p).length → p x = true
  | [], i, x, h, _ => by simp at h
  | y :: l, 0, x, h, hi => by
    simp only [List.getElem?_cons_zero, Option.some.injEq] at h
    subst h
    rw [List.takeWhile_cons] at hi
    by_cases hp : p y = true
    · exact hp
    · rw [if_neg hp] at hi; simp at hi
  | y :: l, i + 1, x, h, hi => by
    simp only [List.getElem?_cons_succ] at h
    rw [List.takeWhile_cons] at hi
    split at hi
    · exact tw_lt p l i x h (by simpa using hi)
    · simp at hi
theorem tw_at {α : Type} (p : α → Bool) : ∀ (l : List α) (x : α), l[(l.takeWhile p).length]? = some x → p x = false
  | [], x, h => by simp at h
  | y :: l, x, h => by
    rw [List.takeWhile_cons] at h
    by_cases hp : p y = true
    · rw [if_pos hp] at h
      simp only [List.length_cons, List.getElem?_cons_succ] at h
      exact tw_at p l x h
    · rw [if_neg hp] at h
      simp only [List.length_nil, List.getElem?_cons_zero, Option.some.injEq] at h
      subst h
      simpa using hp
/-- Where what is so stands ahead of what is not. -/
def Downs {α : Type} (p : α → Bool) (l : List α) : Prop := ∀ (i j : Nat) (x y : α), i < j → l[i]? = some x → l[j]? = some y → p y = true → p x = true
theorem tw_ge {α : Type} {p : α → Bool} {l : List α} (h : Downs p l) {i : Nat} {x : α} (hx : l[i]? = some x) (hi : (l.takeWhile p).length ≤ i) : p x = false := by
  have hl := (List.getElem?_eq_some_iff.1 hx).1
  obtain ⟨y, hn⟩ : ∃ y, l[(l.takeWhile p).length]? = some y := ⟨_, List.getElem?_eq_getElem (by omega)⟩
  have h0 := tw_at p l _ hn
  rcases Nat.lt_or_eq_of_le hi with h1 | h1
  · cases hp : p x with
    | false => rfl
    | true => rw [h _ _ _ _ h1 hn hx hp] at h0; cases h0
  · rw [h1, hx] at hn
    obtain rfl := Option.some.inj hn
    exact h0
theorem take_tw {α : Type} (p : α → Bool) (l : List α) : l.take (l.takeWhile p).length = l.takeWhile p := by
  induction l with
  | nil => rfl
  | cons x xs ih => rw [List.takeWhile_cons]; split <;> simp [ih]
theorem drop_tw {α : Type} (p : α → Bool) (l : List α) : l.drop (l.takeWhile p).length = l.dropWhile p := by
  induction l with
  | nil => rfl
  | cons x xs ih => rw [List.takeWhile_cons, List.dropWhile_cons]; split <;> simp [ih]
theorem pw_get {α : Type} {R : α → α → Prop} {l : List α} (h : l.Pairwise R) {i j : Nat} {x y : α} (hij : i < j) (hx : l[i]? = some x) (hy : l[j]? = some y) : R x y := by
  obtain ⟨h1, rfl⟩ := List.getElem?_eq_some_iff.1 hx
  obtain ⟨h2, rfl⟩ := List.getElem?_eq_some_iff.1 hy
  exact List.pairwise_iff_getElem.1 h i j h1 h2 hij
theorem pw_of_get {α : Type} {R : α → α → Prop} {l : List α} (h : ∀ (i j : Nat) (x y : α), i < j → l[i]? = some x → l[j]? = some y → R x y) : l.Pairwise R :=
  List.pairwise_iff_getElem.2 fun i j h1 h2 hij => h i j _ _ hij (List.getElem?_eq_getElem h1) (List.getElem?_eq_getElem h2)
theorem drop_cons_is {α : Type} {l : List α} {i : Nat} {x : α} {xs : List α} (h : l.drop i = x :: xs) : i < l.length ∧ l[i]? = some x ∧ l.drop (i + 1) = xs := by
  have h1 : i < l.length := by have := congrArg List.length h; simp at this; omega
  rw [List.drop_eq_getElem_cons h1] at h
  obtain ⟨h2, h3⟩ := List.cons.inj h
  exact ⟨h1, by rw [List.getElem?_eq_getElem h1, h2], h3⟩
theorem drop_nil_is {α : Type} {l : List α} {i : Nat} (h : l.drop i = []) : l.length ≤ i := by have := congrArg List.length h; simp at this; omega
theorem filter_split {α : Type} (p : α → Bool) (l : List α) : (l.filter p).length + (l.filter (fun x => !p x)).length = l.length := by
  induction l with
  | nil => rfl
  | cons x xs ih => by_cases h : p x = true <;> simp [List.filter_cons, h] <;> omega
theorem mem_tw_dw {α : Type} (p : α → Bool) (l : List α) (y : α) : (y ∈ l.takeWhile p ∨ y ∈ l.dropWhile p) ↔ y ∈ l := by
  rw [← List.mem_append, List.takeWhile_append_dropWhile]
theorem mem_tw {α : Type} {p : α → Bool} {l : List α} {y : α} (h : y ∈ l.takeWhile p) : p y = true := by
  obtain ⟨i, hi⟩ := List.getElem?_of_mem h
  have hlt := (List.getElem?_eq_some_iff.1 hi).1
  rw [← take_tw, List.getElem?_take, if_pos hlt] at hi
  exact tw_lt p l i y hi hlt
theorem mem_dw {α : Type} {p : α → Bool} {l : List α} (hd : Downs p l) {y : α} (h : y ∈ l.dropWhile p) : p y = false := by
  obtain ⟨i, hi⟩ := List.getElem?_of_mem h
  rw [← drop_tw, List.getElem?_drop] at hi
  exact tw_ge hd hi (by omega)
/-- Two rows that rise, of the same things, are the same row. -/
theorem eq_of_rise {α : Type} {R : α → α → Prop} (irr : ∀ a b, R a b → ¬ R b a) : ∀ (l l' : List α), l.Pairwise R → l'.Pairwise R → (∀ x, x ∈ l ↔ x ∈ l') → l = l'
  | [], [], _, _, _ => rfl
  | [], b :: l', _, _, h => by have := (h b).2 (by simp); cases this
  | a :: l, [], _, _, h => by have := (h a).1 (by simp); cases this
  | a :: l, b :: l', h1, h2, h => by
    rw [List.pairwise_cons] at h1 h2
    have hab : a = b := by
      rcases List.mem_cons.1 ((h a).1 (by simp)) with e | e
      · exact e
      rcases List.mem_cons.1 ((h b).2 (by simp)) with e2 | e2
      · exact e2.symm
      exact absurd (h1.1 b e2) (irr _ _ (h2.1 a e))
    subst hab
    have hna : ∀ x, R x x → False := fun x hx => irr x x hx hx
    rw [eq_of_rise irr l l' h1.2 h2.2 fun x => ⟨fun hx => ?_, fun hx => ?_⟩]
    · rcases List.mem_cons.1 ((h x).1 (by simp [hx])) with e | e
      · subst e; exact absurd (h1.1 _ hx) (hna _)
      · exact e
    · rcases List.mem_cons.1 ((h x).2 (by simp [hx])) with e | e
      · subst e; exact absurd (h2.1 _ hx) (hna _)
      · exact e
theorem filter_tw {α : Type} {p : α → Bool} : ∀ {l : List α}, Downs p l → l.filter p = l.takeWhile p
  | [], _ => rfl
  | x :: xs, h => by
    by_cases hx : p x = true
    · rw [List.filter_cons, if_pos hx, List.takeWhile_cons, if_pos hx, filter_tw (l := xs) fun i j a b hij ha hb hp => h (i + 1) (j + 1) a b (by omega) (by simpa using ha) (by simpa using hb) hp]
    · rw [List.takeWhile_cons, if_neg hx, List.filter_eq_nil_iff]
      intro y hy hp
      obtain ⟨j, hj⟩ := List.getElem?_of_mem hy
      cases j with
      | zero => simp at hj; subst hj; exact hx hp
      | succ j => exact hx (h 0 (j + 1) x y (by omega) rfl hj hp)
theorem tw_mono {α : Type} {p q : α → Bool} (h : ∀ x, p x = true → q x = true) (l : List α) : (l.takeWhile p).length ≤ (l.takeWhile q).length := by
  induction l with
  | nil => simp
  | cons x xs ih =>
    rw [List.takeWhile_cons, List.takeWhile_cons]
    by_cases hx : p x = true
    · rw [if_pos hx, if_pos (h x hx)]; simp; omega
    · rw [if_neg hx]; simp
theorem pw_of_adj {α : Type} {R : α → α → Prop} (tr : ∀ {a b c}, R a b → R b c → R a c) {l : List α} (h : ∀ (i : Nat) (x y : α), l[i]? = some x → l[i + 1]? = some y → R x y) : l.Pairwise R := by
  have hall : ∀ (d i : Nat) (x y : α), l[i]? = some x → l[i + 1 + d]? = some y → R x y := by
    intro d
    induction d with
    | zero => intro i x y hx hy; exact h i x y hx hy
    | succ d ih =>
      intro i x y hx hy
      have hlt := (List.getElem?_eq_some_iff.1 hy).1
      have hz : l[i + 1 + d]? = some l[i + 1 + d] := List.getElem?_eq_getElem (by omega)
      exact tr (ih i x _ hx hz) (h (i + 1 + d) _ y hz hy)
  exact pw_of_get fun i j x y hij hx hy => hall (j - i - 1) i x y hx (by rw [show i + 1 + (j - i - 1) = j by omega]; exact hy)
/-! ### heaps, in plain Lean -/
section heap
variable {α : Type} {lt : α → α → Prop}
theorem cons_set : ∀ {l : List α} {i : Nat} {x y : α}, l[i]? = some x → (x :: l.set i y).Perm (y :: l)
  | [], i, x, y, h => by simp at h
  | z :: l, 0, x, y, h => by
    simp only [List.getElem?_cons_zero, Option.some.injEq] at h
    subst h
    exact List.Perm.swap y z l
  | z :: l, i + 1, x, y, h => by
    simp only [List.getElem?_cons_succ] at h
    rw [List.set_cons_succ]
    exact ((List.Perm.swap z x _).trans ((cons_set h).cons z)).trans (List.Perm.swap y z l)
theorem set_at {l : List α} {i k : Nat} {y : α} (hi : i < l.length) : (l.set i y)[k]? = if k = i then some y else l[k]? := by
  rw [List.getElem?_set]
  by_cases h : i = k
  · subst h; simp [hi]
  · have h' : ¬ k = i := fun e => h e.symm
    simp [h, h']
theorem swap_at {l : List α} {i j k : Nat} {x y : α} (hi : l[i]? = some x) (hj : l[j]? = some y) : ((l.set i y).set j x)[k]? = if k = j then some x else if k = i then some y else l[k]? := by
  have h1 := (List.getElem?_eq_some_iff.1 hi).1
  have h2 := (List.getElem?_eq_some_iff.1 hj).1
  rw [set_at (by rw [List.length_set]; exact h2), set_at h1]
theorem swap_perm {l : List α} {i j : Nat} {x y : α} (hi : l[i]? = some x) (hj : l[j]? = some y) : ((l.set i y).set j x).Perm l := by
  have h1 := (List.getElem?_eq_some_iff.1 hi).1
  have hk : (l.set i y)[j]? = some y := by
    rw [set_at h1]
    split
    · rfl
    · exact hj
  have p1 : (y :: (l.set i y).set j x).Perm (x :: l.set i y) := cons_set hk
  exact (p1.trans (cons_set hi)).cons_inv
def Kid (p q : Nat) : Prop := q = 2 * p + 1 ∨ q = 2 * p + 2
/-- From s on, up to n, none goes ahead of the one above it. -/
def HP (lt : α → α → Prop) (l : List α) (n s : Nat) : Prop := ∀ p q x y, s ≤ p → Kid p q → q < n → l[p]? = some x → l[q]? = some y → ¬ lt y x
/-- .. but for those right under i. -/
def HPx (lt : α → α → Prop) (l : List α) (n s i : Nat) : Prop :=
  (∀ p q x y, s ≤ p → p ≠ i → Kid p q → q < n → l[p]? = some x → l[q]? = some y → ¬ lt y x) ∧
  (∀ p q x y, s ≤ p → Kid p i → Kid i q → q < n → l[p]? = some x → l[q]? = some y → ¬ lt y x)
/-- The one of the two below i that goes ahead. -/
def Ch (lt : α → α → Prop) (l : List α) (n i j : Nat) (y : α) : Prop := l[j]? = some y ∧ j < n ∧ Kid i j ∧ ∀ q z, Kid i q → q < n → l[q]? = some z → ¬ lt z y
inductive Down (lt : α → α → Prop) (n : Nat) : Nat → List α → List α → Prop where
  | low {i : Nat} {l : List α} (h : n ≤ 2 * i + 1) : Down lt n i l l
  | stay {i j : Nat} {l : List α} {x y : α} (hx : l[i]? = some x) (hc : Ch lt l n i j y) (h : ¬ lt y x) : Down lt n i l l
  | go {i j : Nat} {l r : List α} {x y : α} (hx : l[i]? = some x) (hc : Ch lt l n i j y) (h : lt y x) (k : Down lt n j ((l.set i y).set j x) r) : Down lt n i l r
structure Ord (lt : α → α → Prop) : Prop where
  asymm : ∀ {a b}, lt a b → ¬ lt b a
  trans : ∀ {a b c}, ¬ lt b a → ¬ lt c b → ¬ lt c a
  anti : ∀ {a b}, ¬ lt a b → ¬ lt b a → a = b
theorem Down.does (O : Ord lt) {n i : Nat} {l r : List α} (h : Down lt n i l r) : ∀ s, s ≤ i → HPx lt l n s i → HP lt r n s ∧ r.Perm l ∧ ∀ k, n ≤ k → r[k]? = l[k]? := by
  induction h with
  | @low i l h =>
    intro s hs hx
    refine ⟨fun p q x y hp hk hq ha hb => ?_, List.Perm.refl _, fun _ _ => rfl⟩
    by_cases e : p = i
    · subst e
      rcases hk with rfl | rfl <;> omega
    · exact hx.1 p q x y hp e hk hq ha hb
  | @stay i j l x y hx hc hn =>
    intro s hs hX
    refine ⟨fun p q x' y' hp hk hq ha hb => ?_, List.Perm.refl _, fun _ _ => rfl⟩
    by_cases e : p = i
    · subst e
      rw [hx] at ha
      cases ha
      exact O.trans hn (hc.2.2.2 q y' hk hq hb)
    · exact hX.1 p q x' y' hp e hk hq ha hb
  | @go i j l r x y hx hc hlt k ih =>
    intro s hs hX
    obtain ⟨hj, hjn, hkid, hmin⟩ := hc
    have hij : i < j := by rcases hkid with rfl | rfl <;> omega
    have hat := fun k => swap_at (k := k) hx hj
    have hX' : HPx lt ((l.set i y).set j x) n s j := by
      refine ⟨fun p q x' y' hp hpj hk hq ha hb => ?_, fun p q x' y' hp hkj hkq hq ha hb => ?_⟩
      · rw [hat] at ha hb
        rw [if_neg hpj] at ha
        by_cases e : p = i
        · subst e
          rw [if_pos rfl] at ha
          cases ha
          by_cases e2 : q = j
          · subst e2
            rw [if_pos rfl] at hb
            cases hb
            exact O.asymm hlt
          · have hqp : q ≠ p := by rcases hk with rfl | rfl <;> omega
            rw [if_neg e2, if_neg hqp] at hb
            exact hmin q y' hk hq hb
        · rw [if_neg e] at ha
          have e2 : q ≠ j := by
            rintro rfl
            rcases hk with rfl | rfl <;> rcases hkid with h | h <;> omega
          rw [if_neg e2] at hb
          by_cases e3 : q = i
          · subst e3
            rw [if_pos rfl] at hb
            cases hb
            exact hX.2 p j x' y hp hk hkid hjn ha hj
          · rw [if_neg e3] at hb
            exact hX.1 p q x' y' hp e hk hq ha hb
      · have e : p = i := by rcases hkj with rfl | h <;> rcases hkid with h' | h' <;> omega
        subst e
        have e2 : q ≠ j := by rcases hkq with rfl | rfl <;> omega
        have e3 : q ≠ p := by rcases hkq with rfl | rfl <;> omega
        rw [hat, if_neg (by omega), if_pos rfl] at ha
        rw [hat, if_neg e2, if_neg e3] at hb
        cases ha
        exact hX.1 j q y y' (by omega) (by omega) hkq hq hj hb
    obtain ⟨g1, g2, g3⟩ := ih s (by omega) hX'
    refine ⟨g1, g2.trans (swap_perm hx hj), fun k hk => ?_⟩
    rw [g3 k hk, hat, if_neg (by omega), if_neg (by omega)]
theorem HP.top (O : Ord lt) {l : List α} {n : Nat} (h : HP lt l n 0) : ∀ (k : Nat) (x y : α), k < n → l[0]? = some x → l[k]? = some y → ¬ lt y x := by
  intro k
  induction k using Nat.strongRecOn with
  | ind k ih =>
    intro x y hk hx hy
    by_cases h0 : k = 0
    · subst h0
      rw [hx] at hy
      cases hy
      exact fun q => O.asymm q q
    · have hl := (List.getElem?_eq_some_iff.1 hy).1
      have hp : l[(k - 1) / 2]? = some l[(k - 1) / 2] := List.getElem?_eq_getElem (by omega)
      have h1 := ih ((k - 1) / 2) (by omega) x _ (by omega) hx hp
      have h2 := h ((k - 1) / 2) k _ y (Nat.zero_le _) (by unfold Kid; omega) hk hp hy
      exact O.trans h1 h2
/-- A new last one is put in its place. -/
inductive Up (lt : α → α → Prop) : Nat → List α → List α → Prop where
  | top {l : List α} : Up lt 0 l l
  | stay {j : Nat} {l : List α} {x y : α} (h0 : 0 < j) (hx : l[(j - 1) / 2]? = some x) (hy : l[j]? = some y) (h : ¬ lt y x) : Up lt j l l
  | go {j : Nat} {l r : List α} {x y : α} (h0 : 0 < j) (hx : l[(j - 1) / 2]? = some x) (hy : l[j]? = some y) (h : lt y x) (k : Up lt ((j - 1) / 2) ((l.set ((j - 1) / 2) y).set j x) r) : Up lt j l r
/-- .. but for the one at j, under the one above it. -/
def HPu (lt : α → α → Prop) (l : List α) (j : Nat) : Prop :=
  (∀ p q x y, q ≠ j → Kid p q → l[p]? = some x → l[q]? = some y → ¬ lt y x) ∧
  (∀ p q x y, Kid p j → Kid j q → l[p]? = some x → l[q]? = some y → ¬ lt y x)
theorem Up.does (O : Ord lt) {j : Nat} {l r : List α} (h : Up lt j l r) : HPu lt l j → HP lt r r.length 0 ∧ r.Perm l := by
  induction h with
  | @top l =>
    intro hX
    refine ⟨fun p q x y _ hk _ ha hb => ?_, List.Perm.refl _⟩
    exact hX.1 p q x y (by rcases hk with rfl | rfl <;> omega) hk ha hb
  | @stay j l x y h0 hx hy hn =>
    intro hX
    refine ⟨fun p q x' y' _ hk _ ha hb => ?_, List.Perm.refl _⟩
    by_cases e : q = j
    · subst e
      have : p = (q - 1) / 2 := by rcases hk with h | h <;> omega
      subst this
      rw [hx] at ha
      rw [hy] at hb
      cases ha
      cases hb
      exact hn
    · exact hX.1 p q x' y' e hk ha hb
  | @go j l r x y h0 hx hy hlt k ih =>
    intro hX
    generalize hpi : (j - 1) / 2 = i at *
    have hkid : Kid i j := by unfold Kid; omega
    have hij : i < j := by omega
    have hat := fun k => swap_at (k := k) hx hy
    have hX' : HPu lt ((l.set i y).set j x) i := by
      refine ⟨fun p q x' y' hqi hk ha hb => ?_, fun p q x' y' hkp hkq ha hb => ?_⟩
      · rw [hat] at ha hb
        rw [if_neg hqi] at hb
        by_cases e : q = j
        · subst e
          have : p = i := by rcases hk with h | h <;> rcases hkid with h' | h' <;> omega
          subst this
          rw [if_pos rfl] at hb
          rw [if_neg (by omega), if_pos rfl] at ha
          cases ha
          cases hb
          exact O.asymm hlt
        · rw [if_neg e] at hb
          by_cases e2 : p = j
          · subst e2
            rw [if_pos rfl] at ha
            cases ha
            exact hX.2 i q x y' hkid hk hx hb
          · rw [if_neg e2] at ha
            by_cases e3 : p = i
            · subst e3
              rw [if_pos rfl] at ha
              cases ha
              have h1 := hX.1 p q x y' e hk hx hb
              exact O.trans (O.asymm hlt) h1
            · rw [if_neg e3] at ha
              exact hX.1 p q x' y' e hk ha hb
      · have e1 : p ≠ j := by rcases hkp with h | h <;> omega
        have e2 : p ≠ i := by rcases hkp with h | h <;> omega
        rw [hat, if_neg e1, if_neg e2] at ha
        rw [hat] at hb
        have hpx := hX.1 p i x' x (by omega) hkp ha hx
        by_cases e : q = j
        · rw [if_pos e] at hb
          cases hb
          exact hpx
        · have e3 : q ≠ i := by rcases hkq with h | h <;> omega
          rw [if_neg e, if_neg e3] at hb
          exact O.trans hpx (hX.1 i q x y' e hkq hx hb)
    obtain ⟨g1, g2⟩ := ih hX'
    exact ⟨g1, g2.trans (swap_perm hx hy)⟩
/-- Two rows in order, of the same things, are one. -/
theorem sorted_eq (O : Ord lt) {l r : List α} (hp : l.Perm r) (h1 : l.Pairwise (fun a b => ¬ lt b a)) (h2 : r.Pairwise (fun a b => ¬ lt b a)) : l = r :=
  List.Perm.eq_of_pairwise (le := fun a b => ¬ lt b a) (fun a b _ _ ha hb => O.anti hb ha) h1 h2 hp
end heap
/-! ### waits -/
def lt (a b : S23) : Prop := a.f0 < b.f0 ∨ (a.f0 = b.f0 ∧ (a.f1 < b.f1 ∨ (a.f1 = b.f1 ∧ a.f2 < b.f2)))
instance (a b : S23) : Decidable (lt a b) := by unfold lt; exact inferInstance
theorem lt_ord : Ord lt where
  asymm := by unfold lt; omega
  trans := by unfold lt; omega
  anti := by
    intro a b h1 h2
    unfold lt at *
    cases a
    cases b
    simp only [S23.mk.injEq] at *
    omega
def MAY (s : S23) : Bool := decide (0 ≤ s.f0 ∧ s.f0 ≤ 3 ∧ 1 ≤ s.f1 ∧ s.f1 ≤ 1099511627776 ∧ 1 ≤ s.f2 ∧ s.f2 ≤ 1099511627776)
theorem cint_tells (a b : Int) : cmp_Compare_int.f a b = some (if a < b then -1 else if a > b then 1 else 0) := by
  unfold cmp_Compare_int.f cmp_isNaN_int.f
  simp only [Option.bind_some, bne_self_eq_false, Bool.false_eq_true, if_false]
  split
  · rfl
  · split <;> rfl
theorem or_tells (k : Nat) (hk : 4 ≤ k) (a b c : Int) : cmp_Or_int.f k [a, b, c] = some (if a = 0 then (if b = 0 then c else b) else a) := by
  unfold cmp_Or_int.f
  have := cmp_Or_int.r1_eq k [a, b, c] (by simp) k 0 (by simp; omega) (by simp)
  rw [show ((0 : Nat) : Int) = 0 from rfl, List.drop_zero] at this
  rw [this, cmp_Or_int.r1, cmp_Or_int.r1, cmp_Or_int.r1, cmp_Or_int.r1]
  repeat' split
  all_goals first | rfl | (rename_i h; rw [h]) | simp_all
theorem cmp_tells (k : Nat) (hk : 4 ≤ k) (x y : S23) : ∃ c, queue_compare.f k x.f0 x.f1 x.f2 y.f0 y.f1 y.f2 = some c ∧ (c < 0 ↔ lt x y) := by
  unfold queue_compare.f
  simp only [cint_tells, Option.bind_some, or_tells k hk]
  refine ⟨_, rfl, ?_⟩
  unfold lt
  repeat' split
  all_goals omega
theorem less_tells (k : Nat) (hk : 4 ≤ k) (x y : S23) : queue_Less.f k x.f0 x.f1 x.f2 y.f0 y.f1 y.f2 = some (decide (lt x y)) := by
  obtain ⟨c, h1, h2⟩ := cmp_tells k hk x y
  unfold queue_Less.f
  rw [h1, Option.bind_some]
  congr 1
  rw [decide_eq_decide]
  exact h2
theorem qnum_tells (a : Int) : queue_number.f a = some (decide (1 ≤ a ∧ a ≤ 1099511627776)) := by
  unfold queue_number.f
  split <;> simp <;> omega
theorem qmay_tells (s : S23) : queue_may.f s.f0 s.f1 s.f2 = some (MAY s) := by
  unfold queue_may.f MAY
  simp only [qnum_tells, Option.bind_some, decide_eq_true_eq]
  repeat' split
  all_goals (congr 1; first | (symm; apply decide_eq_true; omega) | (symm; apply decide_eq_false; omega) | (apply decide_eq_decide.2; omega))
/-- Which waits may be. -/
def AB (l : List S23) : Bool := decide (l.length ≤ 64) && l.all MAY
theorem all_tells (k : Nat) (l : List S23) (hk : l.length < k) (hs : l.length < 1000000) : queue_all.f k l = some (AB l) := by
  have key : ∀ (xs : List S23) (i : Nat), ∃ j, slices_IndexFunc_api_Wait_api_Wait.r1 k l xs i = some j ∧ decide (j ≥ 0) = !xs.all MAY := by
    intro xs
    induction xs with
    | nil => intro i; exact ⟨-1, rfl, rfl⟩
    | cons x xs ih =>
      intro i
      have : queue_all_1.f x.f0 x.f1 x.f2 = some (!MAY x) := by unfold queue_all_1.f; rw [qmay_tells]; cases MAY x <;> rfl
      rw [slices_IndexFunc_api_Wait_api_Wait.r1, this, Option.bind_some, List.all_cons]
      cases MAY x with
      | false => exact ⟨i, rfl, by simp⟩
      | true => simpa using ih (i + 1)
  unfold queue_all.f AB slices_ContainsFunc_api_Wait_api_Wait.f slices_IndexFunc_api_Wait_api_Wait.f
  have := slices_IndexFunc_api_Wait_api_Wait.r1_eq k l (by omega) k 0 (by omega) (by omega)
  rw [show ((0 : Nat) : Int) = 0 from rfl, List.drop_zero] at this
  rw [this]
  obtain ⟨j, h1, h2⟩ := key l 0
  by_cases h : l.length ≤ 64
  · rw [if_pos (by omega), h1, Option.bind_some, Option.bind_some, h2, decide_eq_true h]
    cases l.all MAY <;> rfl
  · rw [if_neg (by omega), decide_eq_false h]
    rfl
theorem swap_tells {l : List S23} {i j : Nat} {x y : S23} (hi : l[i]? = some x) (hj : l[j]? = some y) : queue_waits_Swap.f l (i : Int) (j : Int) = some ((l.set i y).set j x) := by
  unfold queue_waits_Swap.f
  rw [if_pos ⟨by omega, by omega⟩, Int.toNat_natCast, Int.toNat_natCast, hi, Option.bind_some, hj, Option.bind_some]
theorem down_make (k : Nat) (hk : 4 ≤ k) (rec : Int → List S23 → Option (List S23 × Int)) (i0 : Int) (r0 : List S23) (N : Nat) (hN : (r0.length : Int) = (N : Int)) (hN2 : N ≤ 1000) : ∀ (m i : Nat) (l : List S23), N ≤ l.length → i < l.length → i ≤ 1000 → N - i < m → ∃ r, Down lt N i l r ∧ queue_Make.l53 k rec i0 r0 m (i : Int) l = rec (wrap64 (i0 - 1)) r := by
  intro m
  induction m with
  | zero => intro i l _ _ _ hm; omega
  | succ m ih =>
    intro i l hl hi hi2 hm
    have w0 : wrap64 (2 * (i : Int)) = ((2 * i : Nat) : Int) := by unfold wrap64; omega
    have w1 : wrap64 (((2 * i : Nat) : Int) + 1) = ((2 * i + 1 : Nat) : Int) := by unfold wrap64; omega
    have w2 : wrap64 (((2 * i + 1 : Nat) : Int) + 1) = ((2 * i + 2 : Nat) : Int) := by unfold wrap64; omega
    rw [queue_Make.l53]
    simp only [w0, w1, hN]
    by_cases h1 : N ≤ 2 * i + 1
    · rw [if_pos (by omega), queue_Make.j54, if_pos rfl]
      exact ⟨l, .low h1, rfl⟩
    · rw [if_neg (by omega), queue_Make.j54, decide_eq_false (by omega), if_neg (by simp)]
      simp only [w0, w1, w2, hN, Int.toNat_natCast]
      have hx : l[i]? = some l[i] := List.getElem?_eq_getElem hi
      have hy : l[2 * i + 1]? = some l[2 * i + 1] := List.getElem?_eq_getElem (by omega)
      generalize l[i] = x at hx
      generalize l[2 * i + 1] = y at hy
      by_cases h2 : 2 * i + 2 < N
      · have hz : l[2 * i + 2]? = some l[2 * i + 2] := List.getElem?_eq_getElem (by omega)
        generalize l[2 * i + 2] = z at hz
        obtain ⟨c, e0, e1⟩ := cmp_tells k hk z y
        rw [if_pos (by omega), if_pos (by omega), hz, Option.bind_some, if_pos (by omega), hy, Option.bind_some, e0, Option.bind_some]
        by_cases hc : c < 0
        · have hCh : Ch lt l N i (2 * i + 2) z := ⟨hz, h2, .inr rfl, fun q u hk2 hq hu => by
            rcases hk2 with rfl | rfl
            · rw [hy] at hu
              cases hu
              exact lt_ord.asymm (e1.1 hc)
            · rw [hz] at hu
              cases hu
              exact fun q => lt_ord.asymm q q⟩
          obtain ⟨c2, f0, f1⟩ := cmp_tells k hk z x
          rw [if_pos hc, Option.bind_some, if_pos (by omega), hx, Option.bind_some, f0, Option.bind_some]
          by_cases hlt : c2 < 0
          · rw [if_pos hlt, swap_tells hx hz, Option.bind_some]
            obtain ⟨r, r1, r2⟩ := ih (2 * i + 2) ((l.set i z).set (2 * i + 2) x) (by rw [List.length_set, List.length_set]; exact hl) (by rw [List.length_set, List.length_set]; omega) (by omega) (by omega)
            exact ⟨r, .go hx hCh (f1.1 hlt) r1, r2⟩
          · rw [if_neg hlt]
            exact ⟨l, .stay hx hCh (fun q => hlt (f1.2 q)), rfl⟩
        · have hCh : Ch lt l N i (2 * i + 1) y := ⟨hy, by omega, .inl rfl, fun q u hk2 hq hu => by
            rcases hk2 with rfl | rfl
            · rw [hy] at hu
              cases hu
              exact fun q => lt_ord.asymm q q
            · rw [hz] at hu
              cases hu
              exact fun q => hc (e1.2 q)⟩
          obtain ⟨c2, f0, f1⟩ := cmp_tells k hk y x
          rw [if_neg hc, Option.bind_some, if_pos (by omega), hx, Option.bind_some, f0, Option.bind_some]
          by_cases hlt : c2 < 0
          · rw [if_pos hlt, swap_tells hx hy, Option.bind_some]
            obtain ⟨r, r1, r2⟩ := ih (2 * i + 1) ((l.set i y).set (2 * i + 1) x) (by rw [List.length_set, List.length_set]; exact hl) (by rw [List.length_set, List.length_set]; omega) (by omega) (by omega)
            exact ⟨r, .go hx hCh (f1.1 hlt) r1, r2⟩
          · rw [if_neg hlt]
            exact ⟨l, .stay hx hCh (fun q => hlt (f1.2 q)), rfl⟩
      · have hCh : Ch lt l N i (2 * i + 1) y := ⟨hy, by omega, .inl rfl, fun q u hk2 hq hu => by
          rcases hk2 with rfl | rfl
          · rw [hy] at hu
            cases hu
            exact fun q => lt_ord.asymm q q
          · omega⟩
        obtain ⟨c2, f0, f1⟩ := cmp_tells k hk y x
        rw [if_neg (by omega), if_pos (by omega), hy, Option.bind_some, if_pos (by omega), hx, Option.bind_some, f0, Option.bind_some]
        by_cases hlt : c2 < 0
        · rw [if_pos hlt, swap_tells hx hy, Option.bind_some]
          obtain ⟨r, r1, r2⟩ := ih (2 * i + 1) ((l.set i y).set (2 * i + 1) x) (by rw [List.length_set, List.length_set]; exact hl) (by rw [List.length_set, List.length_set]; omega) (by omega) (by omega)
          exact ⟨r, .go hx hCh (f1.1 hlt) r1, r2⟩
        · rw [if_neg hlt]
          exact ⟨l, .stay hx hCh (fun q => hlt (f1.2 q)), rfl⟩
theorem down_sorted (k : Nat) (hk : 4 ≤ k) (rec : List S23 → List S23 → Option (List S23 × Int)) (out r0 : List S23) (N : Nat) (hN : wrap64 ((r0.length : Int) - 1) = (N : Int)) (hN2 : N ≤ 1000) : ∀ (m i : Nat) (l : List S23), N ≤ l.length → i < l.length → i ≤ 1000 → N - i < m → ∃ r, Down lt N i l r ∧ queue_Sorted.l80 k rec out r0 m (i : Int) l = queue_Sorted.j77 k rec out r := by
  intro m
  induction m with
  | zero => intro i l _ _ _ hm; omega
  | succ m ih =>
    intro i l hl hi hi2 hm
    have w0 : wrap64 (2 * (i : Int)) = ((2 * i : Nat) : Int) := by unfold wrap64; omega
    have w1 : wrap64 (((2 * i : Nat) : Int) + 1) = ((2 * i + 1 : Nat) : Int) := by unfold wrap64; omega
    have w2 : wrap64 (((2 * i + 1 : Nat) : Int) + 1) = ((2 * i + 2 : Nat) : Int) := by unfold wrap64; omega
    rw [queue_Sorted.l80]
    simp only [w0, w1, hN]
    by_cases h1 : N ≤ 2 * i + 1
    · rw [if_pos (by omega), queue_Sorted.j81, if_pos rfl]
      exact ⟨l, .low h1, rfl⟩
    · rw [if_neg (by omega), queue_Sorted.j81, decide_eq_false (by omega), if_neg (by simp)]
      simp only [w0, w1, w2, hN, Int.toNat_natCast]
      have hx : l[i]? = some l[i] := List.getElem?_eq_getElem hi
      have hy : l[2 * i + 1]? = some l[2 * i + 1] := List.getElem?_eq_getElem (by omega)
      generalize l[i] = x at hx
      generalize l[2 * i + 1] = y at hy
      by_cases h2 : 2 * i + 2 < N
      · have hz : l[2 * i + 2]? = some l[2 * i + 2] := List.getElem?_eq_getElem (by omega)
        generalize l[2 * i + 2] = z at hz
        obtain ⟨c, e0, e1⟩ := cmp_tells k hk z y
        rw [if_pos (by omega), if_pos (by omega), hz, Option.bind_some, if_pos (by omega), hy, Option.bind_some, e0, Option.bind_some]
        by_cases hc : c < 0
        · have hCh : Ch lt l N i (2 * i + 2) z := ⟨hz, h2, .inr rfl, fun q u hk2 hq hu => by
            rcases hk2 with rfl | rfl
            · rw [hy] at hu
              cases hu
              exact lt_ord.asymm (e1.1 hc)
            · rw [hz] at hu
              cases hu
              exact fun q => lt_ord.asymm q q⟩
          obtain ⟨c2, f0, f1⟩ := cmp_tells k hk z x
          rw [if_pos hc, Option.bind_some, if_pos (by omega), hx, Option.bind_some, f0, Option.bind_some]
          by_cases hlt : c2 < 0
          · rw [if_pos hlt, swap_tells hx hz, Option.bind_some]
            obtain ⟨r, r1, r2⟩ := ih (2 * i + 2) ((l.set i z).set (2 * i + 2) x) (by rw [List.length_set, List.length_set]; exact hl) (by rw [List.length_set, List.length_set]; omega) (by omega) (by omega)
            exact ⟨r, .go hx hCh (f1.1 hlt) r1, r2⟩
          · rw [if_neg hlt]
            exact ⟨l, .stay hx hCh (fun q => hlt (f1.2 q)), rfl⟩
        · have hCh : Ch lt l N i (2 * i + 1) y := ⟨hy, by omega, .inl rfl, fun q u hk2 hq hu => by
            rcases hk2 with rfl | rfl
            · rw [hy] at hu
              cases hu
              exact fun q => lt_ord.asymm q q
            · rw [hz] at hu
              cases hu
              exact fun q => hc (e1.2 q)⟩
          obtain ⟨c2, f0, f1⟩ := cmp_tells k hk y x
          rw [if_neg hc, Option.bind_some, if_pos (by omega), hx, Option.bind_some, f0, Option.bind_some]
          by_cases hlt : c2 < 0
          · rw [if_pos hlt, swap_tells hx hy, Option.bind_some]
            obtain ⟨r, r1, r2⟩ := ih (2 * i + 1) ((l.set i y).set (2 * i + 1) x) (by rw [List.length_set, List.length_set]; exact hl) (by rw [List.length_set, List.length_set]; omega) (by omega) (by omega)
            exact ⟨r, .go hx hCh (f1.1 hlt) r1, r2⟩
          · rw [if_neg hlt]
            exact ⟨l, .stay hx hCh (fun q => hlt (f1.2 q)), rfl⟩
      · have hCh : Ch lt l N i (2 * i + 1) y := ⟨hy, by omega, .inl rfl, fun q u hk2 hq hu => by
          rcases hk2 with rfl | rfl
          · rw [hy] at hu
            cases hu
            exact fun q => lt_ord.asymm q q
          · omega⟩
        obtain ⟨c2, f0, f1⟩ := cmp_tells k hk y x
        rw [if_neg (by omega), if_pos (by omega), hy, Option.bind_some, if_pos (by omega), hx, Option.bind_some, f0, Option.bind_some]
        by_cases hlt : c2 < 0
        · rw [if_pos hlt, swap_tells hx hy, Option.bind_some]
          obtain ⟨r, r1, r2⟩ := ih (2 * i + 1) ((l.set i y).set (2 * i + 1) x) (by rw [List.length_set, List.length_set]; exact hl) (by rw [List.length_set, List.length_set]; omega) (by omega) (by omega)
          exact ⟨r, .go hx hCh (f1.1 hlt) r1, r2⟩
        · rw [if_neg hlt]
          exact ⟨l, .stay hx hCh (fun q => hlt (f1.2 q)), rfl⟩
theorem init_tells (k : Nat) (hk : 70 ≤ k) (r0 : List S23) (hr0 : r0.length ≤ 66) : ∀ (i m : Nat) (l : List S23), l.length = r0.length → 2 * i ≤ r0.length → i < m → HP lt l r0.length i → ∃ r, HP lt r r.length 0 ∧ r.Perm l ∧ queue_Make.l46 k r0 m ((i : Int) - 1) l = some (r, 0) := by
  intro i
  induction i with
  | zero =>
    intro m l hl h2 hm hp
    obtain ⟨m, rfl⟩ : ∃ q, m = q + 1 := ⟨m - 1, by omega⟩
    rw [queue_Make.l46, if_neg (by omega)]
    exact ⟨l, hl ▸ hp, List.Perm.refl _, rfl⟩
  | succ i ih =>
    intro m l hl h2 hm hp
    obtain ⟨m, rfl⟩ : ∃ q, m = q + 1 := ⟨m - 1, by omega⟩
    have e : ((i + 1 : Nat) : Int) - 1 = (i : Int) := by omega
    rw [e, queue_Make.l46, if_pos (by omega)]
    obtain ⟨r, d1, d2⟩ := down_make k (by omega) (queue_Make.l46 k r0 m) (i : Int) r0 r0.length rfl (by omega) k i l (by omega) (by omega) (by omega) (by omega)
    have hw : wrap64 ((i : Int) - 1) = (i : Int) - 1 := by unfold wrap64; omega
    rw [d2, hw]
    obtain ⟨g1, g2, _⟩ := d1.does lt_ord i (Nat.le_refl i) ⟨fun p q x y hp1 hp2 hk2 hq hx hy => hp p q x y (by omega) hk2 hq hx hy, fun p q x y hp1 hk2 => by rcases hk2 with h | h <;> omega⟩
    obtain ⟨r', a1, a2, a3⟩ := ih m r (by rw [g2.length_eq, hl]) (by omega) (by omega) g1
    exact ⟨r', a1, a2.trans g2, a3⟩
theorem make_tells (k : Nat) (hk : 70 ≤ k) (l : List S23) (hl : l.length ≤ 66) (h : AB l = true) : ∃ r, queue_Make.f k l = some (r, 0) ∧ HP lt r r.length 0 ∧ r.Perm l := by
  unfold queue_Make.f
  rw [all_tells k l (by omega) (by omega), h, Option.bind_some, if_pos rfl, queue_Make.j36, if_neg (by simp), slices_Clone_api_Wait_api_Wait.f, if_pos (by omega), Option.bind_some]
  have hw : wrap64 ((IntKind.i64.wrap ((l.length : Int).tdiv 2)) - 1) = ((l.length / 2 : Nat) : Int) - 1 := by
    have h1 : (l.length : Int).tdiv 2 = ((l.length / 2 : Nat) : Int) := by rw [Int.tdiv_eq_ediv_of_nonneg (by omega)]; omega
    have h2 : IntKind.i64.wrap ((l.length / 2 : Nat) : Int) = ((l.length / 2 : Nat) : Int) := by simp [IntKind.wrap, IntKind.bits, IntKind.signed]; omega
    rw [h1, h2]
    unfold wrap64
    omega
  rw [hw]
  obtain ⟨r, a1, a2, a3⟩ := init_tells k hk l hl (l.length / 2) k l rfl (by omega) (by omega) (fun p q x y hp hk2 hq => by rcases hk2 with h | h <;> omega)
  exact ⟨r, a3, a1, a2⟩
theorem make_bad (k : Nat) (l : List S23) (hk : l.length < k) (hl : l.length ≤ 66) (h : AB l = false) : queue_Make.f k l = some ([], 1) := by
  unfold queue_Make.f
  rw [all_tells k l (by omega) (by omega), h, Option.bind_some, if_neg (by simp), queue_Make.j36, if_pos rfl]
/-- The first and the last change places, and the first is put in its place. -/
theorem pop_heap {l : List S23} {x y : S23} {N : Nat} (hN : l.length = N + 1) (hp : HP lt l l.length 0) (hx : l[0]? = some x) (hy : l[N]? = some y) {r : List S23} (hd : Down lt N 0 ((l.set 0 y).set N x) r) :
    r.length = N + 1 ∧ r[N]? = some x ∧ HP lt (r.take N) (r.take N).length 0 ∧ (x :: r.take N).Perm l ∧ ∀ z ∈ l, ¬ lt z x := by
  have hat := fun k => swap_at (k := k) hx hy
  have hX : HPx lt ((l.set 0 y).set N x) N 0 0 := by
    refine ⟨fun p q u v _ hp0 hk2 hq hu hv => ?_, fun p q u v _ hk2 => by rcases hk2 with h | h <;> omega⟩
    have hpq : p < q := by rcases hk2 with h | h <;> omega
    rw [hat, if_neg (by omega), if_neg (by omega)] at hu hv
    exact hp p q u v (Nat.zero_le _) hk2 (by omega) hu hv
  obtain ⟨g1, g2, g3⟩ := hd.does lt_ord 0 (Nat.le_refl 0) hX
  have hperm := g2.trans (swap_perm hx hy)
  have hlen : r.length = N + 1 := by rw [hperm.length_eq, hN]
  have hrN : r[N]? = some x := by rw [g3 N (Nat.le_refl _), hat, if_pos rfl]
  have hlast : r.take N ++ [x] = r := by
    have h1 : r.drop N = [x] := by
      rw [List.drop_eq_getElem_cons (by omega), List.drop_of_length_le (by omega)]
      congr 1
      rw [List.getElem?_eq_getElem (by omega)] at hrN
      exact Option.some.inj hrN
    rw [← h1, List.take_append_drop]
  have hlt : (r.take N).length = N := by rw [List.length_take]; omega
  refine ⟨hlen, hrN, fun p q u v hp0 hk2 hq hu hv => ?_, ?_, fun z hz => ?_⟩
  · rw [hlt] at hq
    have hpq : p < q := by rcases hk2 with h | h <;> omega
    rw [List.getElem?_take, if_pos (by omega)] at hu hv
    exact g1 p q u v (Nat.zero_le _) hk2 hq hu hv
  · have h1 : (x :: r.take N).Perm (r.take N ++ [x]) := (List.perm_append_singleton x (r.take N)).symm
    rw [hlast] at h1
    exact h1.trans hperm
  · obtain ⟨i, hi⟩ := List.getElem?_of_mem hz
    have := (List.getElem?_eq_some_iff.1 hi).1
    exact hp.top lt_ord i x z this hx hi
theorem sorts_tells (k : Nat) (hk : 70 ≤ k) : ∀ (n m : Nat) (l out : List S23), l.length = n → n < m → out.length + n ≤ 66 → HP lt l l.length 0 → ∃ s, queue_Sorted.l41 k m out l = some (out ++ s, 0) ∧ s.Perm l ∧ s.Pairwise (fun a b => ¬ lt b a) := by
  intro n
  induction n with
  | zero =>
    intro m l out hl hm ho hp
    obtain ⟨m, rfl⟩ : ∃ q, m = q + 1 := ⟨m - 1, by omega⟩
    have : l = [] := List.eq_nil_of_length_eq_zero hl
    subst this
    rw [queue_Sorted.l41, if_neg (by simp)]
    exact ⟨[], by simp, List.Perm.refl _, List.Pairwise.nil⟩
  | succ N ih =>
    intro m l out hl hm ho hp
    obtain ⟨m, rfl⟩ : ∃ q, m = q + 1 := ⟨m - 1, by omega⟩
    have hx : l[0]? = some l[0] := List.getElem?_eq_getElem (by omega)
    have hy : l[N]? = some l[N] := List.getElem?_eq_getElem (by omega)
    generalize l[0] = x at hx
    generalize l[N] = y at hy
    have hw : wrap64 ((l.length : Int) - 1) = (N : Int) := by unfold wrap64; omega
    rw [queue_Sorted.l41, if_pos (by omega), hw]
    have hsw := swap_tells hx hy
    rw [show ((0 : Nat) : Int) = 0 from rfl] at hsw
    rw [hsw, Option.bind_some]
    obtain ⟨r, d1, d2⟩ := down_sorted k (by omega) (queue_Sorted.l41 k m) out l N hw (by omega) k 0 ((l.set 0 y).set N x) (by rw [List.length_set, List.length_set]; omega) (by rw [List.length_set, List.length_set]; omega) (by omega) (by omega)
    rw [show ((0 : Nat) : Int) = 0 from rfl] at d2
    rw [d2]
    obtain ⟨p1, p2, p3, p4, p5⟩ := pop_heap hl hp hx hy d1
    have hw2 : wrap64 ((r.length : Int) - 1) = (N : Int) := by unfold wrap64; omega
    rw [queue_Sorted.j77, hw2, if_pos (by omega), Int.toNat_natCast, p2, Option.bind_some, if_pos (by omega), if_pos (by simp; omega)]
    obtain ⟨s, a1, a2, a3⟩ := ih m (r.take N) (out ++ [x]) (by rw [List.length_take]; omega) (by omega) (by simp; omega) p3
    refine ⟨x :: s, by rw [a1, List.append_assoc]; rfl, (a2.cons x).trans p4, List.pairwise_cons.2 ⟨fun z hz => ?_, a3⟩⟩
    exact p5 z (p4.subset (List.mem_cons_of_mem _ (a2.subset hz)))
theorem qsorted_tells (k : Nat) (hk : 70 ≤ k) (l : List S23) (hl : l.length ≤ 66) (h : AB l = true) : ∃ s, queue_Sorted.f k l = some (s, 0) ∧ s.Perm l ∧ s.Pairwise (fun a b => ¬ lt b a) := by
  obtain ⟨r, h1, h2, h3⟩ := make_tells k hk l hl h
  have hlen := h3.length_eq
  unfold queue_Sorted.f
  rw [h1, Option.bind_some]
  simp only
  rw [if_pos trivial]
  obtain ⟨s, a1, a2, a3⟩ := sorts_tells k hk r.length k r [] rfl (by omega) (by simp; omega) h2
  exact ⟨s, by rw [a1, List.nil_append], a2.trans h3, a3⟩
theorem qsorted_bad (k : Nat) (l : List S23) (hk : l.length < k) (hl : l.length ≤ 66) (h : AB l = false) : queue_Sorted.f k l = some ([], 1) := by
  unfold queue_Sorted.f
  rw [make_bad k l hk hl h, Option.bind_some]
  simp only
  rw [if_neg (by decide)]
theorem down_pop (k : Nat) (hk : 4 ≤ k) (r0 : List S23) (N : Nat) (hN : wrap64 ((r0.length : Int) - 1) = (N : Int)) (hN2 : N ≤ 1000) : ∀ (m i : Nat) (l : List S23), N ≤ l.length → i < l.length → i ≤ 1000 → N - i < m → ∃ r, Down lt N i l r ∧ queue_Pop.l130 k r0 m (i : Int) l = queue_Pop.j127 k r := by
  intro m
  induction m with
  | zero => intro i l _ _ _ hm; omega
  | succ m ih =>
    intro i l hl hi hi2 hm
    have w0 : wrap64 (2 * (i : Int)) = ((2 * i : Nat) : Int) := by unfold wrap64; omega
    have w1 : wrap64 (((2 * i : Nat) : Int) + 1) = ((2 * i + 1 : Nat) : Int) := by unfold wrap64; omega
    have w2 : wrap64 (((2 * i + 1 : Nat) : Int) + 1) = ((2 * i + 2 : Nat) : Int) := by unfold wrap64; omega
    rw [queue_Pop.l130]
    simp only [w0, w1, hN]
    by_cases h1 : N ≤ 2 * i + 1
    · rw [if_pos (by omega), queue_Pop.j131, if_pos rfl]
      exact ⟨l, .low h1, rfl⟩
    · rw [if_neg (by omega), queue_Pop.j131, decide_eq_false (by omega), if_neg (by simp)]
      simp only [w0, w1, w2, hN, Int.toNat_natCast]
      have hx : l[i]? = some l[i] := List.getElem?_eq_getElem hi
      have hy : l[2 * i + 1]? = some l[2 * i + 1] := List.getElem?_eq_getElem (by omega)
      generalize l[i] = x at hx
      generalize l[2 * i + 1] = y at hy
      by_cases h2 : 2 * i + 2 < N
      · have hz : l[2 * i + 2]? = some l[2 * i + 2] := List.getElem?_eq_getElem (by omega)
        generalize l[2 * i + 2] = z at hz
        obtain ⟨c, e0, e1⟩ := cmp_tells k hk z y
        rw [if_pos (by omega), if_pos (by omega), hz, Option.bind_some, if_pos (by omega), hy, Option.bind_some, e0, Option.bind_some]
        by_cases hc : c < 0
        · have hCh : Ch lt l N i (2 * i + 2) z := ⟨hz, h2, .inr rfl, fun q u hk2 hq hu => by
            rcases hk2 with rfl | rfl
            · rw [hy] at hu
              cases hu
              exact lt_ord.asymm (e1.1 hc)
            · rw [hz] at hu
              cases hu
              exact fun q => lt_ord.asymm q q⟩
          obtain ⟨c2, f0, f1⟩ := cmp_tells k hk z x
          rw [if_pos hc, Option.bind_some, if_pos (by omega), hx, Option.bind_some, f0, Option.bind_some]
          by_cases hlt : c2 < 0
          · rw [if_pos hlt, swap_tells hx hz, Option.bind_some]
            obtain ⟨r, r1, r2⟩ := ih (2 * i + 2) ((l.set i z).set (2 * i + 2) x) (by rw [List.length_set, List.length_set]; exact hl) (by rw [List.length_set, List.length_set]; omega) (by omega) (by omega)
            exact ⟨r, .go hx hCh (f1.1 hlt) r1, r2⟩
          · rw [if_neg hlt]
            exact ⟨l, .stay hx hCh (fun q => hlt (f1.2 q)), rfl⟩
        · have hCh : Ch lt l N i (2 * i + 1) y := ⟨hy, by omega, .inl rfl, fun q u hk2 hq hu => by
            rcases hk2 with rfl | rfl
            · rw [hy] at hu
              cases hu
              exact fun q => lt_ord.asymm q q
            · rw [hz] at hu
              cases hu
              exact fun q => hc (e1.2 q)⟩
          obtain ⟨c2, f0, f1⟩ := cmp_tells k hk y x
          rw [if_neg hc, Option.bind_some, if_pos (by omega), hx, Option.bind_some, f0, Option.bind_some]
          by_cases hlt : c2 < 0
          · rw [if_pos hlt, swap_tells hx hy, Option.bind_some]
            obtain ⟨r, r1, r2⟩ := ih (2 * i + 1) ((l.set i y).set (2 * i + 1) x) (by rw [List.length_set, List.length_set]; exact hl) (by rw [List.length_set, List.length_set]; omega) (by omega) (by omega)
            exact ⟨r, .go hx hCh (f1.1 hlt) r1, r2⟩
          · rw [if_neg hlt]
            exact ⟨l, .stay hx hCh (fun q => hlt (f1.2 q)), rfl⟩
      · have hCh : Ch lt l N i (2 * i + 1) y := ⟨hy, by omega, .inl rfl, fun q u hk2 hq hu => by
          rcases hk2 with rfl | rfl
          · rw [hy] at hu
            cases hu
            exact fun q => lt_ord.asymm q q
          · omega⟩
        obtain ⟨c2, f0, f1⟩ := cmp_tells k hk y x
        rw [if_neg (by omega), if_pos (by omega), hy, Option.bind_some, if_pos (by omega), hx, Option.bind_some, f0, Option.bind_some]
        by_cases hlt : c2 < 0
        · rw [if_pos hlt, swap_tells hx hy, Option.bind_some]
          obtain ⟨r, r1, r2⟩ := ih (2 * i + 1) ((l.set i y).set (2 * i + 1) x) (by rw [List.length_set, List.length_set]; exact hl) (by rw [List.length_set, List.length_set]; omega) (by omega) (by omega)
          exact ⟨r, .go hx hCh (f1.1 hlt) r1, r2⟩
        · rw [if_neg hlt]
          exact ⟨l, .stay hx hCh (fun q => hlt (f1.2 q)), rfl⟩
theorem right_tells (k : Nat) (hk : 70 ≤ k) (l : List S23) (hl : l.length ≤ 67) : ∃ b, queue_Right.f k l = some b ∧ (b = true ↔ HP lt l l.length 0 ∧ AB l = true) := by
  have key : ∀ (xs : List S23) (i : Nat), 1 ≤ i → l.drop i = xs → ∃ b, queue_Right.r1 k l xs i = some b ∧ (b = true ↔ (∀ (j : Nat) (x y : S23), i ≤ j → l[j]? = some x → l[(j - 1) / 2]? = some y → ¬ lt x y) ∧ AB l = true) := by
    intro xs
    induction xs with
    | nil =>
      intro i h1 hd
      have hle := drop_nil_is hd
      rw [queue_Right.r1, all_tells k l (by omega) (by omega), Option.bind_some]
      refine ⟨_, rfl, fun h => ⟨fun j x y hj hx => ?_, h⟩, fun h => h.2⟩
      have := (List.getElem?_eq_some_iff.1 hx).1
      omega
    | cons x xs ih =>
      intro i h1 hd
      obtain ⟨g1, g2, g3⟩ := drop_cons_is hd
      have hw : wrap64 ((i : Int) - 1) = ((i - 1 : Nat) : Int) := by unfold wrap64; omega
      have hq : IntKind.i64.wrap (((i - 1 : Nat) : Int).tdiv 2) = (((i - 1) / 2 : Nat) : Int) := by
        have h1 : ((i - 1 : Nat) : Int).tdiv 2 = (((i - 1) / 2 : Nat) : Int) := by rw [Int.tdiv_eq_ediv_of_nonneg (by omega)]; omega
        rw [h1]
        simp [IntKind.wrap, IntKind.bits, IntKind.signed]
        omega
      have hp : l[(i - 1) / 2]? = some l[(i - 1) / 2] := List.getElem?_eq_getElem (by omega)
      generalize l[(i - 1) / 2] = y at hp
      rw [queue_Right.r1, hw, hq, if_pos (by omega), Int.toNat_natCast, hp, Option.bind_some, less_tells k (by omega), Option.bind_some]
      by_cases hlt : lt x y
      · rw [decide_eq_true hlt, if_pos rfl]
        exact ⟨false, rfl, by simp, fun h => absurd hlt (h.1 i x y (Nat.le_refl _) g2 hp)⟩
      · rw [decide_eq_false hlt, if_neg (by simp)]
        obtain ⟨b, e1, e2⟩ := ih (i + 1) (by omega) g3
        refine ⟨b, e1, e2.trans ⟨fun h => ⟨fun j u v hj hu hv => ?_, h.2⟩, fun h => ⟨fun j u v hj hu hv => h.1 j u v (by omega) hu hv, h.2⟩⟩⟩
        rcases Nat.lt_or_eq_of_le hj with hj | rfl
        · exact h.1 j u v hj hu hv
        · rw [g2] at hu
          rw [hp] at hv
          cases hu
          cases hv
          exact hlt
  have hHP : HP lt l l.length 0 ↔ (∀ (j : Nat) (x y : S23), 1 ≤ j → l[j]? = some x → l[(j - 1) / 2]? = some y → ¬ lt x y) := by
    constructor
    · intro h j x y hj hx hy
      exact h ((j - 1) / 2) j y x (Nat.zero_le _) (by unfold Kid; omega) (List.getElem?_eq_some_iff.1 hx).1 hy hx
    · intro h p q x y _ hk2 _ hx hy
      have : p = (q - 1) / 2 := by rcases hk2 with e | e <;> omega
      subst this
      exact h q y x (by rcases hk2 with e | e <;> omega) hy hx
  unfold queue_Right.f
  match l, hl, key, hHP with
  | [], hl, key, hHP =>
    obtain ⟨k, rfl⟩ : ∃ q, k = q + 1 := ⟨k - 1, by omega⟩
    rw [queue_Right.l1, if_neg (by simp), all_tells _ _ (by simp) (by simp), Option.bind_some]
    exact ⟨_, rfl, fun h => ⟨hHP.2 fun j x y _ hx => by simp at hx, h⟩, fun h => h.2⟩
  | a :: l, hl, key, hHP =>
    have := queue_Right.r1_eq k (a :: l) (by omega) k 1 (by omega) (by simp)
    rw [show ((1 : Nat) : Int) = 1 from rfl] at this
    rw [this]
    obtain ⟨b, e1, e2⟩ := key _ 1 (Nat.le_refl _) rfl
    exact ⟨b, e1, by rw [e2, hHP]⟩
theorem same_tells (k : Nat) (l : List S23) (hk : l.length < k) (hs : l.length < 1000000) : tarryref06_Same.f k l l = some true := by
  have key : ∀ (xs : List S23) (i : Nat), l.drop i = xs → tarryref06_Same.r1 k l l xs i = some true := by
    intro xs
    induction xs with
    | nil => intro i _; rfl
    | cons x xs ih =>
      intro i hd
      obtain ⟨g1, g2, g3⟩ := drop_cons_is hd
      rw [tarryref06_Same.r1, Int.toNat_natCast, g2, Option.bind_some, if_pos (by simp), ih (i + 1) g3]
  unfold tarryref06_Same.f
  have := tarryref06_Same.r1_eq k l l (by omega) k 0 (by omega) (by omega)
  rw [show ((0 : Nat) : Int) = 0 from rfl, List.drop_zero] at this
  rw [if_pos rfl, this, key l 0 rfl]
/-- A new one is put where it belongs. -/
theorem up_tells (k : Nat) (hk : 4 ≤ k) : ∀ (j m : Nat) (l : List S23), j < l.length → l.length ≤ 1000 → j < m → ∃ r, Up lt j l r ∧ queue_Push.l3 k m (j : Int) l = some (r, 0) := by
  intro j
  induction j using Nat.strongRecOn with
  | ind j ih =>
    intro m l hj hl hm
    obtain ⟨m, rfl⟩ : ∃ q, m = q + 1 := ⟨m - 1, by omega⟩
    have hq : IntKind.i64.wrap ((wrap64 ((j : Int) - 1)).tdiv 2) = (if j = 0 then 0 else (((j - 1) / 2 : Nat) : Int)) := by
      by_cases h0 : j = 0
      · subst h0; decide +kernel
      · rw [if_neg h0]
        have hw : wrap64 ((j : Int) - 1) = ((j - 1 : Nat) : Int) := by unfold wrap64; omega
        have h1 : ((j - 1 : Nat) : Int).tdiv 2 = (((j - 1) / 2 : Nat) : Int) := by rw [Int.tdiv_eq_ediv_of_nonneg (by omega)]; omega
        rw [hw, h1]
        simp [IntKind.wrap, IntKind.bits, IntKind.signed]
        omega
    rw [queue_Push.l3, hq]
    by_cases h0 : j = 0
    · subst h0
      rw [if_pos (by simp)]
      exact ⟨l, .top, rfl⟩
    · simp only [if_neg h0]
      have hy : l[j]? = some l[j] := List.getElem?_eq_getElem hj
      have hx : l[(j - 1) / 2]? = some l[(j - 1) / 2] := List.getElem?_eq_getElem (by omega)
      generalize l[j] = y at hy
      generalize l[(j - 1) / 2] = x at hx
      obtain ⟨c, e0, e1⟩ := cmp_tells k hk y x
      rw [if_neg (by omega), if_pos (by omega), Int.toNat_natCast, hy, Option.bind_some, if_pos (by omega), Int.toNat_natCast, hx, Option.bind_some, e0, Option.bind_some]
      by_cases hc : c < 0
      · rw [if_pos hc, swap_tells hx hy, Option.bind_some]
        obtain ⟨r, r1, r2⟩ := ih ((j - 1) / 2) (by omega) m ((l.set ((j - 1) / 2) y).set j x) (by rw [List.length_set, List.length_set]; omega) (by rw [List.length_set, List.length_set]; exact hl) (by omega)
        exact ⟨r, .go (by omega) hx hy (e1.1 hc) r1, r2⟩
      · rw [if_neg hc]
        exact ⟨l, .stay (by omega) hx hy (fun q => hc (e1.2 q)), rfl⟩
def Hq (l : List S23) : Prop := HP lt l l.length 0 ∧ AB l = true
theorem push_tells (k : Nat) (hk : 70 ≤ k) (l : List S23) (w : S23) (hl : l.length ≤ 66) (h : Hq l) (hm : MAY w = true) (h64 : l.length ≠ 64) : ∃ r, queue_Push.f k l w.f0 w.f1 w.f2 = some (r, 0) ∧ Hq r ∧ r.Perm (l ++ [w]) := by
  obtain ⟨b, r1, r2⟩ := right_tells k hk l (by omega)
  obtain rfl := r2.2 h
  have hl64 : l.length ≤ 64 := by have := h.2; unfold AB at this; simp only [Bool.and_eq_true, decide_eq_true_eq] at this; exact this.1
  have hlen : (l ++ [w]).length = l.length + 1 := by simp
  have hw : wrap64 (((l ++ [w]).length : Int) - 1) = ((l.length : Nat) : Int) := by rw [hlen]; unfold wrap64; omega
  unfold queue_Push.f
  rw [r1, Option.bind_some, if_pos rfl, qmay_tells, hm, Option.bind_some, if_pos rfl, if_neg (by omega), slices_Clone_api_Wait_api_Wait.f, if_pos (by omega), Option.bind_some, if_pos (by simp; omega)]
  show ∃ r, queue_Push.l3 k k (wrap64 (((l ++ [w]).length : Int) - 1)) (l ++ [w]) = some (r, 0) ∧ Hq r ∧ r.Perm (l ++ [w])
  rw [hw]
  obtain ⟨r, d1, d2⟩ := up_tells k (by omega) l.length k (l ++ [w]) (by omega) (by omega) (by omega)
  have hX : HPu lt (l ++ [w]) l.length := by
    refine ⟨fun p q x y hq hk2 hx hy => ?_, fun p q x y _ hk2 _ hy => ?_⟩
    · have hql := (List.getElem?_eq_some_iff.1 hy).1
      have hpq : p < q := by rcases hk2 with e | e <;> omega
      rw [List.getElem?_append_left (by omega)] at hx hy
      exact h.1 p q x y (Nat.zero_le _) hk2 (by omega) hx hy
    · have hql := (List.getElem?_eq_some_iff.1 hy).1
      rcases hk2 with e | e <;> omega
  obtain ⟨g1, g2⟩ := d1.does lt_ord hX
  refine ⟨r, d2, ⟨g1, ?_⟩, g2⟩
  have h2 := h.2
  unfold AB at h2 ⊢
  simp only [Bool.and_eq_true, decide_eq_true_eq, List.all_eq_true] at h2 ⊢
  refine ⟨by rw [g2.length_eq]; omega, fun x hx => ?_⟩
  rcases List.mem_append.1 (g2.subset hx) with hx | hx
  · exact h2.2 x hx
  · obtain rfl := List.mem_singleton.1 hx
    exact hm
theorem push_bad (k : Nat) (hk : 70 ≤ k) (l : List S23) (w : S23) (hl : l.length ≤ 66) (h : ¬ Hq l ∨ MAY w = false) : queue_Push.f k l w.f0 w.f1 w.f2 = some ([], 1) := by
  obtain ⟨b, r1, r2⟩ := right_tells k hk l (by omega)
  unfold queue_Push.f
  rw [r1, Option.bind_some]
  cases b with
  | false => rfl
  | true =>
    rcases h with h | h
    · exact absurd (r2.1 rfl) h
    · rw [if_pos rfl, qmay_tells, h]
      rfl
theorem push_full (k : Nat) (hk : 70 ≤ k) (l : List S23) (w : S23) (h : Hq l) (hm : MAY w = true) (h64 : l.length = 64) : queue_Push.f k l w.f0 w.f1 w.f2 = some ([], 7) := by
  obtain ⟨b, r1, r2⟩ := right_tells k hk l (by omega)
  obtain rfl := r2.2 h
  unfold queue_Push.f
  rw [r1, Option.bind_some, if_pos rfl, qmay_tells, hm, Option.bind_some, if_pos rfl, if_pos (by omega)]
theorem pop_tells (k : Nat) (hk : 70 ≤ k) (l : List S23) (hl : l.length ≤ 66) (h : Hq l) (h0 : l.length ≠ 0) : ∃ (r : List S23) (x : S23), queue_Pop.f k l = some (r, x.f0, x.f1, x.f2, 0) ∧ Hq r ∧ (x :: r).Perm l ∧ l[0]? = some x ∧ ∀ z ∈ l, ¬ lt z x := by
  obtain ⟨b, r1, r2⟩ := right_tells k hk l (by omega)
  obtain rfl := r2.2 h
  obtain ⟨N, hN⟩ : ∃ N, l.length = N + 1 := ⟨l.length - 1, by omega⟩
  have hx : l[0]? = some l[0] := List.getElem?_eq_getElem (by omega)
  have hy : l[N]? = some l[N] := List.getElem?_eq_getElem (by omega)
  generalize l[0] = x at hx
  generalize l[N] = y at hy
  have hw : wrap64 ((l.length : Int) - 1) = (N : Int) := by unfold wrap64; omega
  have hsw := swap_tells hx hy
  rw [show ((0 : Nat) : Int) = 0 from rfl] at hsw
  unfold queue_Pop.f
  rw [r1, Option.bind_some, if_pos rfl, queue_Pop.j91, if_neg (by simp), if_neg (by omega), slices_Clone_api_Wait_api_Wait.f, if_pos (by omega), Option.bind_some, hw, hsw, Option.bind_some]
  obtain ⟨r, d1, d2⟩ := down_pop k (by omega) l N hw (by omega) k 0 ((l.set 0 y).set N x) (by rw [List.length_set, List.length_set]; omega) (by rw [List.length_set, List.length_set]; omega) (by omega) (by omega)
  rw [show ((0 : Nat) : Int) = 0 from rfl] at d2
  rw [d2]
  obtain ⟨p1, p2, p3, p4, p5⟩ := pop_heap hN h.1 hx hy d1
  have hw2 : wrap64 ((r.length : Int) - 1) = (N : Int) := by unfold wrap64; omega
  rw [queue_Pop.j127, hw2, if_pos (by omega), Int.toNat_natCast, p2, Option.bind_some, if_pos (by omega)]
  refine ⟨r.take N, x, rfl, ⟨p3, ?_⟩, p4, hx, p5⟩
  have h2 := h.2
  unfold AB at h2 ⊢
  simp only [Bool.and_eq_true, decide_eq_true_eq, List.all_eq_true] at h2 ⊢
  exact ⟨by rw [List.length_take]; omega, fun z hz => h2.2 z (p4.subset (List.mem_cons_of_mem _ hz))⟩
theorem pop_bad (k : Nat) (hk : 70 ≤ k) (l : List S23) (hl : l.length ≤ 66) (h : ¬ Hq l) : queue_Pop.f k l = some ([], 0, 0, 0, 1) := by
  obtain ⟨b, r1, r2⟩ := right_tells k hk l (by omega)
  unfold queue_Pop.f
  rw [r1, Option.bind_some]
  cases b with
  | false => rfl
  | true => exact absurd (r2.1 rfl) h
theorem alive_tells : tarrylaw06_alive.f 200 = some true := by decide +kernel
theorem pops_tells (l0 s : List S23) (hL : ((l0.take (mn (l0.length : Int) 30).toNat).drop 0).length ≤ 30) : ∀ (d m i : Nat) (h out : List S23), h.length = d → i + d = ((l0.take (mn (l0.length : Int) 30).toNat).drop 0).length → d < m → out.length = i → Hq h → ∃ t, t.Perm h ∧ t.Pairwise (fun a b => ¬ lt b a) ∧ tarrylaw06_QueueOrders.l9 200 l0 s 0 m h out (i : Int) = ((tarryref06_Same.f 200 (out ++ t) s).bind fun q => some q) := by
  intro d
  induction d with
  | zero =>
    intro m i h out hd hi hm ho hH
    obtain ⟨m, rfl⟩ : ∃ q, m = q + 1 := ⟨m - 1, by omega⟩
    have : h = [] := List.eq_nil_of_length_eq_zero hd
    subst this
    refine ⟨[], List.Perm.refl _, List.Pairwise.nil, ?_⟩
    rw [tarrylaw06_QueueOrders.l9, if_neg (by omega), alive_tells, Option.bind_some, if_pos rfl, if_pos rfl, if_pos (by simp), List.append_nil]
  | succ d ih =>
    intro m i h out hd hi hm ho hH
    obtain ⟨m, rfl⟩ : ∃ q, m = q + 1 := ⟨m - 1, by omega⟩
    have hw : wrap64 ((i : Int) + 1) = ((i + 1 : Nat) : Int) := by unfold wrap64; omega
    obtain ⟨r, x, f1, f2, f3, f4, f5⟩ := pop_tells 200 (by decide) h (by omega) hH (by omega)
    have hrl := f3.length_eq
    simp only [List.length_cons] at hrl
    obtain ⟨b, b1, b2⟩ := right_tells 200 (by decide) r (by omega)
    obtain rfl : b = true := b2.2 f2
    obtain ⟨t, t1, t2, t3⟩ := ih m (i + 1) r (out ++ [x]) (by omega) (by omega) (by omega) (by simp; omega) f2
    refine ⟨x :: t, (t1.cons x).trans f3, List.pairwise_cons.2 ⟨fun z hz => f5 z (f3.subset (List.mem_cons_of_mem _ (t1.subset hz))), t2⟩, ?_⟩
    rw [tarrylaw06_QueueOrders.l9, if_pos (by omega), f1, Option.bind_some]
    simp only
    rw [if_pos trivial, b1, Option.bind_some, if_pos rfl, if_pos (by simp; omega), hw, t3, List.append_assoc]
    rfl
theorem pushes_tells (a1 : Int) (l0 s : List S23) (e : Int) : ∀ (xs h : List S23), Hq h → h.length + xs.length ≤ 60 → (xs.all MAY = true → ∃ h', Hq h' ∧ h'.Perm (h ++ xs) ∧ tarrylaw06_QueueOrders.r7 200 a1 l0 s e xs h = tarrylaw06_QueueOrders.j6 200 l0 s e h') ∧ (xs.all MAY = false → e = 1 → tarrylaw06_QueueOrders.r7 200 a1 l0 s e xs h = some true) := by
  intro xs
  induction xs with
  | nil => exact fun h hH _ => ⟨fun _ => ⟨h, hH, by simp, rfl⟩, fun h => by simp at h⟩
  | cons x xs ih =>
    intro h hH hl
    simp only [List.length_cons] at hl
    cases hm : MAY x with
    | false =>
      refine ⟨fun q => by simp [hm] at q, fun _ he => ?_⟩
      subst he
      rw [tarrylaw06_QueueOrders.r7, push_bad 200 (by decide) h x (by omega) (.inr hm), Option.bind_some]
      simp only
      rw [if_neg (by decide), alive_tells, Option.bind_some, if_pos rfl, if_pos trivial]
      rfl
    | true =>
      obtain ⟨r, e1, e2, e3⟩ := push_tells 200 (by decide) h x (by omega) hH hm (by omega)
      have hrl := e3.length_eq
      simp only [List.length_append, List.length_cons, List.length_nil] at hrl
      obtain ⟨i1, i2⟩ := ih r e2 (by omega)
      rw [tarrylaw06_QueueOrders.r7, e1, Option.bind_some, List.all_cons, hm, Bool.true_and]
      simp only
      rw [if_pos trivial]
      refine ⟨fun q => ?_, i2⟩
      obtain ⟨h', g1, g2, g3⟩ := i1 q
      refine ⟨h', g1, g2.trans ((e3.append_right xs).trans ?_), g3⟩
      rw [List.append_assoc, List.singleton_append]
theorem QueueOrders : tarrylaw06_QueueOrders.Pure := by
  unfold tarrylaw06_QueueOrders.Pure
  intro l0 a1 _ _
  refine ⟨200, ?_⟩
  obtain ⟨c1, c2, c3⟩ : 0 ≤ mn (l0.length : Int) 30 ∧ mn (l0.length : Int) 30 ≤ l0.length ∧ (mn (l0.length : Int) 30).toNat ≤ 30 := by unfold mn; split <;> refine ⟨by omega, by omega, by omega⟩
  have hl : ((l0.take (mn (l0.length : Int) 30).toNat).drop 0).length ≤ 30 := by rw [List.drop_zero, List.length_take]; omega
  have hnil : Hq [] := ⟨fun p q x y _ _ _ hx => by simp at hx, by decide⟩
  have hq := pushes_tells a1 l0
  have hp := pops_tells l0
  have hr := tarrylaw06_QueueOrders.r7_eq 200 a1 l0
  unfold tarrylaw06_QueueOrders.f
  rw [if_pos c1, if_pos c2]
  unfold tarrylaw06_QueueOrders.j6 at hq
  generalize hle : (l0.take (mn (l0.length : Int) 30).toNat).drop 0 = l at *
  by_cases h0 : l.length = 0
  · rw [if_pos (by omega), alive_tells]
    rfl
  · rw [if_neg (by omega)]
    have hw : ∃ by_ : Nat, (wrap64 ((a1.tmod (l.length : Int)) + (l.length : Int))).tmod (l.length : Int) = (by_ : Int) ∧ by_ ≤ l.length := by
      have hb : -(l.length : Int) < a1.tmod (l.length : Int) := by
        have := Int.lt_tmod_of_pos a1 (show (0 : Int) < (l.length : Int) by omega)
        exact this
      have hb2 : a1.tmod (l.length : Int) < (l.length : Int) := Int.tmod_lt_of_pos a1 (by omega)
      have hw1 : wrap64 ((a1.tmod (l.length : Int)) + (l.length : Int)) = a1.tmod (l.length : Int) + (l.length : Int) := by
        generalize a1.tmod (l.length : Int) = z at *
        unfold wrap64
        omega
      rw [hw1]
      generalize a1.tmod (l.length : Int) = z at *
      have h1 : (z + (l.length : Int)).tmod (l.length : Int) = (z + (l.length : Int)) % (l.length : Int) := Int.tmod_eq_emod_of_nonneg (by omega)
      have h2 := Int.emod_nonneg (z + (l.length : Int)) (show (l.length : Int) ≠ 0 by omega)
      have h3 := Int.emod_lt_of_pos (z + (l.length : Int)) (show (0 : Int) < (l.length : Int) by omega)
      rw [h1]
      exact ⟨((z + (l.length : Int)) % (l.length : Int)).toNat, by omega, by omega⟩
    obtain ⟨n, hn, hn2⟩ := hw
    rw [hn] at hr ⊢
    have hperm : (([] : List S23) ++ (l.take l.length).drop n ++ (l.take n).drop 0).Perm l := by
      rw [List.nil_append, List.take_length, List.drop_zero]
      have := (List.perm_append_comm (l₁ := l.drop n) (l₂ := l.take n))
      rwa [List.take_append_drop] at this
    have hall : ∀ xs : List S23, xs.Perm l → xs.all MAY = l.all MAY := fun xs hx => hx.all_eq
    have hlenR := hperm.length_eq
    have hA : AB l = l.all MAY := by unfold AB; rw [decide_eq_true (by omega), Bool.true_and]
    have hrr := fun (s : List S23) (e : Int) => hr s e
    simp only [Int.toNat_natCast] at hrr ⊢
    generalize hR : (([] : List S23) ++ (l.take l.length).drop n ++ (l.take n).drop 0) = R at *
    have hl7 : ∀ (s : List S23) (e : Int), tarrylaw06_QueueOrders.l7 200 a1 l0 s e 200 [] 0 = tarrylaw06_QueueOrders.r7 200 a1 l0 s e R [] := by
      intro s e
      have := hrr s e (by omega) 200 0 [] (by omega) (by omega)
      rwa [show ((0 : Nat) : Int) = 0 from rfl, List.drop_zero] at this
    cases hAB : AB l with
    | false =>
      rw [qsorted_bad 200 l (by omega) (by omega) hAB, Option.bind_some]
      simp only
      rw [if_pos (by omega), if_pos (by omega), if_pos (by omega), if_pos (by simp; omega), if_pos (by simp; omega), hl7]
      exact (hq [] 1 R [] hnil (by simp; omega)).2 (by rw [hall R hperm, ← hA, hAB]) rfl
    | true =>
      obtain ⟨s, q1, q2, q3⟩ := qsorted_tells 200 (by decide) l (by omega) hAB
      have hsl := q2.length_eq
      rw [q1, Option.bind_some]
      simp only
      rw [if_pos (by omega), if_pos (by omega), if_pos (by omega), if_pos (by simp; omega), if_pos (by simp; omega), hl7]
      obtain ⟨h', g1, g2, g3⟩ := (hq s 0 R [] hnil (by simp; omega)).1 (by rw [hall R hperm, ← hA, hAB])
      rw [List.nil_append] at g2
      have hh := g2.length_eq
      obtain ⟨t, t1, t2, t3⟩ := hp s hl h'.length 200 0 h' [] rfl (by omega) (by omega) rfl g1
      rw [show ((0 : Nat) : Int) = 0 from rfl, List.nil_append] at t3
      obtain rfl : t = s := sorted_eq lt_ord (t1.trans (g2.trans (hperm.trans q2.symm))) t2 q3
      rw [g3, t3, same_tells 200 t (by omega) (by omega)]
      rfl
end Go.Proofs.Ythgoagnennjagaa.Pure
