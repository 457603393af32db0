/- TimerPasses: what is due at a time is due later too, of what is left nothing is due then, and the next one is behind it, both together are all; no further condition. -/
import Derived.Test.YtmcfgahjchkgaaaRTimerPasses
namespace Go.Proofs.Ytmcfgahjchkgaaa.Pure
open Go Go.RowKit Go.Proofs.Ytmcfgahjchkgaaa.PTimerPasses Go.Proofs.YtmcfgahjchkgaaaV 
set_option linter.unusedSimpArgs false
set_option linter.unusedVariables false
theorem take_drop0 {α : Type} (l : List α) (i : Nat) : (l.take i).drop 0 = l.take i := rfl
theorem w64n {n : Int} (h1 : -9000000000000000000 ≤ n) (h2 : n ≤ 9000000000000000000) : wrap64 n = n := by unfold wrap64; omega
/-- A binary search's middle. -/
theorem mid_is {i j : Nat} (hi : i ≤ 1000000) (hj : j ≤ 1000000) : wrap64 ((IntKind.u64.wrap (wrap64 ((i : Int) + (j : Int)))).fdiv (2 ^ min (1 : Int).toNat IntKind.u64.bits)) = (((i + j) / 2 : Nat) : Int) := by
  have e1 : wrap64 ((i : Int) + (j : Int)) = ((i + j : Nat) : Int) := by unfold wrap64; omega
  have e2 : IntKind.u64.wrap ((i + j : Nat) : Int) = ((i + j : Nat) : Int) := by
    have h : IntKind.u64.wrap ((i + j : Nat) : Int) = ((i + j : Nat) : Int) % 18446744073709551616 := rfl
    rw [h]
    omega
  have e3 : (2 : Int) ^ min (1 : Int).toNat IntKind.u64.bits = 2 := by decide
  rw [e1, e2, e3, Int.fdiv_eq_ediv_of_nonneg _ (by decide)]
  unfold wrap64
  omega
/-- The things ahead of the first one that is not so. -/
theorem tw_len_le {α : Type} (p : α → Bool) (l : List α) : (l.takeWhile p).length ≤ l.length := by
  induction l with
  | nil => simp
  | cons x xs ih => rw [List.takeWhile_cons]; split <;> simp <;> omega
theorem tw_lt {α : Type} (p : α → Bool) : ∀ (l : List α) (i : Nat) (x : α), l[i]? = some x → i < (l.takeWhile p).length → p x = true
  | [], i, x, h, _ => by simp at h
  | y :: l, 0, x, h, hi => by
    simp only [List.getElem?_cons_zero, Option.some.injEq] at h
    subst h
    rw [List.takeWhile_cons] at hi
    by_cases hp : p y = true
    · exact hp
    · rw [if_neg hp] at hi; simp at hi
  | y :: l, i + 1, x, h, hi => by
    simp only [List.getElem?_cons_succ] at h
    rw [List.takeWhile_cons] at hi
    split at hi
    · exact tw_lt p l i x h (by simpa using hi)
    · simp at hi
theorem tw_at {α : Type} (p : α → Bool) : ∀ (l : List α) (x : α), l[(l.takeWhile p).length]? = some x → p x = false
  | [], x, h => by simp at h
  | y :: l, x, h => by
    rw [List.takeWhile_cons] at h
    by_cases hp : p y = true
    · rw [if_pos hp] at h
      simp only [List.length_cons, List.getElem?_cons_succ] at h
      exact tw_at p l x h
    · rw [if_neg hp] at h
      simp only [List.length_nil, List.getElem?_cons_zero, Option.some.injEq] at h
      subst h
      simpa using hp
/-- Where what is so stands ahead of what is not. -/
def Downs {α : Type} (p : α → Bool) (l : List α) : Prop := ∀ (i j : Nat) (x y : α), i < j → l[i]? = some x → l[j]? = some y → p y = true → p x = true
theorem tw_ge {α : Type} {p : α → Bool} {l : List α} (h : Downs p l) {i : Nat} {x : α} (hx : l[i]? = some x) (hi : (l.takeWhile p).length ≤ i) : p x = false := by
  have hl := (List.getElem?_eq_some_iff.1 hx).1
  obtain ⟨y, hn⟩ : ∃ y, l[(l.takeWhile p).length]? = some y := ⟨_, List.getElem?_eq_getElem (by omega)⟩
  have h0 := tw_at p l _ hn
  rcases Nat.lt_or_eq_of_le hi with h1 | h1
  · cases hp : p x with
    | false => rfl
    | true => rw [h _ _ _ _ h1 hn hx hp] at h0; cases h0
  · rw [h1, hx] at hn
    obtain rfl := Option.some.inj hn
    exact h0
theorem take_tw {α : Type} (p : α → Bool) (l : List α) : l.take (l.takeWhile p).length = l.takeWhile p := by
  induction l with
  | nil => rfl
  | cons x xs ih => rw [List.takeWhile_cons]; split <;> simp [ih]
theorem drop_tw {α : Type} (p : α → Bool) (l : List α) : l.drop (l.takeWhile p).length = l.dropWhile p := by
  induction l with
  | nil => rfl
  | cons x xs ih => rw [List.takeWhile_cons, List.dropWhile_cons]; split <;> simp [ih]
theorem pw_get {α : Type} {R : α → α → Prop} {l : List α} (h : l.Pairwise R) {i j : Nat} {x y : α} (hij : i < j) (hx : l[i]? = some x) (hy : l[j]? = some y) : R x y := by
  obtain ⟨h1, rfl⟩ := List.getElem?_eq_some_iff.1 hx
  obtain ⟨h2, rfl⟩ := List.getElem?_eq_some_iff.1 hy
  exact List.pairwise_iff_getElem.1 h i j h1 h2 hij
theorem pw_of_get {α : Type} {R : α → α → Prop} {l : List α} (h : ∀ (i j : Nat) (x y : α), i < j → l[i]? = some x → l[j]? = some y → R x y) : l.Pairwise R :=
  List.pairwise_iff_getElem.2 fun i j h1 h2 hij => h i j _ _ hij (List.getElem?_eq_getElem h1) (List.getElem?_eq_getElem h2)
theorem drop_cons_is {α : Type} {l : List α} {i : Nat} {x : α} {xs : List α} (h : l.drop i = x :: xs) : i < l.length ∧ l[i]? = some x ∧ l.drop (i + 1) = xs := by
  have h1 : i < l.length := by have := congrArg List.length h; simp at this; omega
  rw [List.drop_eq_getElem_cons h1] at h
  obtain ⟨h2, h3⟩ := List.cons.inj h
  exact ⟨h1, by rw [List.getElem?_eq_getElem h1, h2], h3⟩
theorem drop_nil_is {α : Type} {l : List α} {i : Nat} (h : l.drop i = []) : l.length ≤ i := by have := congrArg List.length h; simp at this; omega
theorem filter_split {α : Type} (p : α → Bool) (l : List α) : (l.filter p).length + (l.filter (fun x => !p x)).length = l.length := by
  induction l with
  | nil => rfl
  | cons x xs ih => by_cases h : p x = true <;> simp [List.filter_cons, h] <;> omega
theorem mem_tw_dw {α : Type} (p : α → Bool) (l : List α) (y : α) : (y ∈ l.takeWhile p ∨ y ∈ l.dropWhile p) ↔ y ∈ l := by
  rw [← List.mem_append, List.takeWhile_append_dropWhile]
theorem mem_tw {α : Type} {p : α → Bool} {l : List α} {y : α} (h : y ∈ l.takeWhile p) : p y = true := by
  obtain ⟨i, hi⟩ := List.getElem?_of_mem h
  have hlt := (List.getElem?_eq_some_iff.1 hi).1
  rw [← take_tw, List.getElem?_take, if_pos hlt] at hi
  exact tw_lt p l i y hi hlt
theorem mem_dw {α : Type} {p : α → Bool} {l : List α} (hd : Downs p l) {y : α} (h : y ∈ l.dropWhile p) : p y = false := by
  obtain ⟨i, hi⟩ := List.getElem?_of_mem h
  rw [← drop_tw, List.getElem?_drop] at hi
  exact tw_ge hd hi (by omega)
/-- Two rows that rise, of the same things, are the same row. -/
theorem eq_of_rise {α : Type} {R : α → α → Prop} (irr : ∀ a b, R a b → ¬ R b a) : ∀ (l l' : List α), l.Pairwise R → l'.Pairwise R → (∀ x, x ∈ l ↔ x ∈ l') → l = l'
  | [], [], _, _, _ => rfl
  | [], b :: l', _, _, h => by have := (h b).2 (by simp); cases this
  | a :: l, [], _, _, h => by have := (h a).1 (by simp); cases this
  | a :: l, b :: l', h1, h2, h => by
    rw [List.pairwise_cons] at h1 h2
    have hab : a = b := by
      rcases List.mem_cons.1 ((h a).1 (by simp)) with e | e
      · exact e
      rcases List.mem_cons.1 ((h b).2 (by simp)) with e2 | e2
      · exact e2.symm
      exact absurd (h1.1 b e2) (irr _ _ (h2.1 a e))
    subst hab
    have hna : ∀ x, R x x → False := fun x hx => irr x x hx hx
    rw [eq_of_rise irr l l' h1.2 h2.2 fun x => ⟨fun hx => ?_, fun hx => ?_⟩]
    · rcases List.mem_cons.1 ((h x).1 (by simp [hx])) with e | e
      · subst e; exact absurd (h1.1 _ hx) (hna _)
      · exact e
    · rcases List.mem_cons.1 ((h x).2 (by simp [hx])) with e | e
      · subst e; exact absurd (h2.1 _ hx) (hna _)
      · exact e
theorem filter_tw {α : Type} {p : α → Bool} : ∀ {l : List α}, Downs p l → l.filter p = l.takeWhile p
  | [], _ => rfl
  | x :: xs, h => by
    by_cases hx : p x = true
    · rw [List.filter_cons, if_pos hx, List.takeWhile_cons, if_pos hx, filter_tw (l := xs) fun i j a b hij ha hb hp => h (i + 1) (j + 1) a b (by omega) (by simpa using ha) (by simpa using hb) hp]
    · rw [List.takeWhile_cons, if_neg hx, List.filter_eq_nil_iff]
      intro y hy hp
      obtain ⟨j, hj⟩ := List.getElem?_of_mem hy
      cases j with
      | zero => simp at hj; subst hj; exact hx hp
      | succ j => exact hx (h 0 (j + 1) x y (by omega) rfl hj hp)
theorem tw_mono {α : Type} {p q : α → Bool} (h : ∀ x, p x = true → q x = true) (l : List α) : (l.takeWhile p).length ≤ (l.takeWhile q).length := by
  induction l with
  | nil => simp
  | cons x xs ih =>
    rw [List.takeWhile_cons, List.takeWhile_cons]
    by_cases hx : p x = true
    · rw [if_pos hx, if_pos (h x hx)]; simp; omega
    · rw [if_neg hx]; simp
def may (x : S23) : Bool := decide (x.f0 ≥ 0 ∧ x.f0 ≤ 1099511627776 ∧ x.f1 ≥ 1 ∧ x.f1 ≤ 3 ∧ x.f2 ≥ 1 ∧ x.f2 ≤ 1099511627776)
theorem may_tells (x : S23) : timer_may.f x.f0 x.f1 x.f2 = some (may x) := by
  unfold timer_may.f may
  repeat' split
  all_goals first | (congr 1; rw [decide_eq_decide]; omega) | (congr 1; symm; apply decide_eq_false; omega)
theorem may2_tells (a b c : Int) : timer_may.f a b c = some (may ⟨a, b, c⟩) := may_tells ⟨a, b, c⟩
def has (a b : Int) (x : S23) : Bool := x.f1 == a && x.f2 == b
theorem of_tells (x : S23) (a b : Int) : timer_of_1.f x.f0 x.f1 x.f2 a b = some (has a b x) := by
  unfold timer_of_1.f has
  split
  · rename_i h; simp [h]
  · rename_i h; simp [h]
theorem contains_tells (k : Nat) (a b : Int) (l : List S23) (hk : l.length < k) (hs : l.length < 1000000) : slices_ContainsFunc_api_Timer_api_Timer.f k l a b = some (l.any (has a b)) := by
  have key : ∀ (xs : List S23) (i : Nat), ∃ j, slices_IndexFunc_api_Timer_api_Timer.r1 k a b l xs i = some j ∧ decide (j ≥ 0) = xs.any (has a b) := by
    intro xs
    induction xs with
    | nil => intro i; exact ⟨-1, rfl, rfl⟩
    | cons x xs ih =>
      intro i
      rw [slices_IndexFunc_api_Timer_api_Timer.r1, of_tells, Option.bind_some, List.any_cons]
      cases has a b x with
      | true => exact ⟨i, rfl, by simp⟩
      | false => simpa using ih (i + 1)
  unfold slices_ContainsFunc_api_Timer_api_Timer.f slices_IndexFunc_api_Timer_api_Timer.f
  have := slices_IndexFunc_api_Timer_api_Timer.r1_eq k a b l (by omega) k 0 (by omega) (by omega)
  rw [show ((0 : Nat) : Int) = 0 from rfl, List.drop_zero] at this
  rw [this]
  obtain ⟨j, h1, h2⟩ := key l 0
  rw [h1, Option.bind_some, h2]
def cmpI (a b : Int) : Int := if a < b then -1 else if a > b then 1 else 0
theorem cmpI_tells (a b : Int) : cmp_Compare_int.f a b = some (cmpI a b) := by
  unfold cmp_Compare_int.f cmp_isNaN_int.f cmpI
  simp only [Option.bind_some, bne_self_eq_false, Bool.false_eq_true, if_false]
  split
  · rfl
  · split <;> rfl
def cmp (a b : S23) : Int := if cmpI a.f0 b.f0 = 0 then (if cmpI a.f1 b.f1 = 0 then cmpI a.f2 b.f2 else cmpI a.f1 b.f1) else cmpI a.f0 b.f0
theorem cmp_tells (k : Nat) (hk : 4 ≤ k) (a b : S23) : timer_compare.f k a.f0 a.f1 a.f2 b.f0 b.f1 b.f2 = some (cmp a b) := by
  unfold timer_compare.f
  rw [cmpI_tells, cmpI_tells, cmpI_tells]
  simp only [Option.bind_some]
  unfold cmp_Or_int.f
  have := cmp_Or_int.r1_eq k [cmpI a.f0 b.f0, cmpI a.f1 b.f1, cmpI a.f2 b.f2] (by simp) k 0 (by simp; omega) (by simp)
  rw [show ((0 : Nat) : Int) = 0 from rfl, List.drop_zero] at this
  rw [this]
  unfold cmp
  simp only [cmp_Or_int.r1]
  split
  · split
    · split
      · rename_i h; rw [h]; rfl
      · rfl
    · rfl
  · rfl
def lt (a b : S23) : Prop := a.f0 < b.f0 ∨ a.f0 = b.f0 ∧ (a.f1 < b.f1 ∨ a.f1 = b.f1 ∧ a.f2 < b.f2)
instance (a b : S23) : Decidable (lt a b) := by unfold lt; exact inferInstance
theorem cmpI_neg (a b : Int) : (cmpI a b < 0 ↔ a < b) ∧ (cmpI a b = 0 ↔ a = b) ∧ (cmpI a b > 0 ↔ b < a) := by unfold cmpI; split <;> (try split) <;> omega
theorem cmp_is (a b : S23) : (cmp a b < 0 ↔ lt a b) ∧ (cmp a b > 0 ↔ lt b a) := by
  have h0 := cmpI_neg a.f0 b.f0
  have h1 := cmpI_neg a.f1 b.f1
  have h2 := cmpI_neg a.f2 b.f2
  unfold cmp lt
  split <;> (try split) <;> omega
theorem eq_of (a b : S23) (h0 : a.f0 = b.f0) (h1 : a.f1 = b.f1) (h2 : a.f2 = b.f2) : a = b := by cases a; cases b; simp_all
instance : DecidableEq S23 := fun a b => if h : a.f0 = b.f0 ∧ a.f1 = b.f1 ∧ a.f2 = b.f2 then isTrue (eq_of a b h.1 h.2.1 h.2.2) else isFalse (fun e => h (by rw [e]; exact ⟨rfl, rfl, rfl⟩))
/-- What timers may be. -/
def Rt (l : List S23) : Prop := l.length ≤ 96 ∧ (∀ x ∈ l, may x = true) ∧ l.Pairwise (fun y x => lt y x ∧ ¬ (y.f1 = x.f1 ∧ y.f2 = x.f2))
theorem sorted_tells (k : Nat) (hk : 4 ≤ k) (l : List S23) (hs : l.length < 1000000) (hk2 : l.length < k) : ∃ b, slices_IsSortedFunc_api_Timer_api_Timer.f k l = some b ∧ (b = true ↔ ∀ (i : Nat) (x y : S23), l[i]? = some x → l[i + 1]? = some y → ¬ lt y x) := by
  have key : ∀ (n m : Nat), n < l.length → n < m → ∃ b, slices_IsSortedFunc_api_Timer_api_Timer.l1 k l m (n : Int) = some b ∧ (b = true ↔ ∀ (i : Nat) (x y : S23), i + 1 ≤ n → l[i]? = some x → l[i + 1]? = some y → ¬ lt y x) := by
    intro n
    induction n with
    | zero =>
      intro m hn hm
      obtain ⟨m, rfl⟩ : ∃ q, m = q + 1 := ⟨m - 1, by omega⟩
      exact ⟨true, rfl, ⟨fun _ i x y h => by omega, fun _ => rfl⟩⟩
    | succ n ih =>
      intro m hn hm
      obtain ⟨m, rfl⟩ : ∃ q, m = q + 1 := ⟨m - 1, by omega⟩
      have e1 : wrap64 (((n + 1 : Nat) : Int) - 1) = (n : Int) := by unfold wrap64; omega
      rw [slices_IsSortedFunc_api_Timer_api_Timer.l1, if_pos (by omega), if_pos (by omega), Int.toNat_natCast, List.getElem?_eq_getElem hn, Option.bind_some, e1, if_pos (by omega), Int.toNat_natCast, List.getElem?_eq_getElem (by omega), Option.bind_some, cmp_tells k hk, Option.bind_some]
      by_cases hc : cmp l[n + 1] l[n] < 0
      · rw [if_pos hc]
        refine ⟨false, rfl, ⟨(fun h => by cases h), fun h => absurd ((cmp_is _ _).1.1 hc) (h n _ _ (Nat.le_refl _) (List.getElem?_eq_getElem (by omega)) (List.getElem?_eq_getElem hn))⟩⟩
      · rw [if_neg hc]
        obtain ⟨b, h1, h2⟩ := ih m (by omega) (by omega)
        refine ⟨b, h1, h2.trans ⟨fun h i x y hi hx hy => ?_, fun h i x y hi hx hy => h i x y (by omega) hx hy⟩⟩
        rcases Nat.lt_or_ge (i + 1) (n + 1) with h3 | h3
        · exact h i x y (by omega) hx hy
        · obtain rfl : i = n := by omega
          rw [List.getElem?_eq_getElem hn] at hy
          rw [List.getElem?_eq_getElem (by omega)] at hx
          obtain rfl := Option.some.inj hx
          obtain rfl := Option.some.inj hy
          exact fun h4 => hc ((cmp_is _ _).1.2 h4)
  unfold slices_IsSortedFunc_api_Timer_api_Timer.f
  rcases Nat.eq_zero_or_pos l.length with h0 | h0
  · have e : l = [] := List.eq_nil_of_length_eq_zero h0
    subst e
    obtain ⟨k, rfl⟩ : ∃ q, k = q + 1 := ⟨k - 1, by omega⟩
    exact ⟨true, by rw [slices_IsSortedFunc_api_Timer_api_Timer.l1, if_neg (by simp only [List.length_nil]; unfold wrap64; omega)], ⟨fun _ i x y h => by simp at h, fun _ => rfl⟩⟩
  · have e1 : wrap64 ((l.length : Int) - 1) = ((l.length - 1 : Nat) : Int) := by unfold wrap64; omega
    rw [e1]
    obtain ⟨b, h1, h2⟩ := key (l.length - 1) k (by omega) (by omega)
    refine ⟨b, h1, h2.trans ⟨fun h i x y hx hy => h i x y ?_ hx hy, fun h i x y _ hx hy => h i x y hx hy⟩⟩
    have := (List.getElem?_eq_some_iff.1 hy).1
    omega
theorem lt_trans {a b c : S23} (h1 : lt a b) (h2 : lt b c) : lt a c := by unfold lt at *; omega
theorem right_tells (k : Nat) (hk : 100 ≤ k) (l : List S23) (hl : l.length ≤ 99) : ∃ b, timer_Right.f k l = some b ∧ (b = true ↔ Rt l) := by
  have nodup : ∀ (b : Bool) (xs : List S23) (i : Nat), l.drop i = xs → (∃ b, timer_Right.r1 k l xs i = some b ∧ (b = true ↔ (∀ x ∈ xs, may x = true) ∧ (∀ (j : Nat) (x : S23), i ≤ j → l[j]? = some x → (l.take j).any (has x.f1 x.f2) = false) ∧ l.length ≤ 96 ∧ ∀ (i : Nat) (x y : S23), l[i]? = some x → l[i + 1]? = some y → ¬ lt y x)) := by
    intro _ xs
    induction xs with
    | nil =>
      intro i hi
      rw [timer_Right.r1]
      have hli : l.length ≤ i := by have := congrArg List.length hi; simp at this; omega
      have hv : ∀ (j : Nat) (x : S23), i ≤ j → l[j]? = some x → (l.take j).any (has x.f1 x.f2) = false := fun j x hj hx => by have := (List.getElem?_eq_some_iff.1 hx).1; omega
      split
      · obtain ⟨b, h1, h2⟩ := sorted_tells k (by omega) l (by omega) (by omega)
        rw [h1, Option.bind_some]
        exact ⟨b, rfl, h2.trans ⟨fun h => ⟨by simp, hv, by omega, h⟩, fun h => h.2.2.2⟩⟩
      · exact ⟨false, rfl, ⟨(fun h => by cases h), fun h => by omega⟩⟩
    | cons x xs ih =>
      intro i hi
      have hli : i < l.length := by
        have := congrArg List.length hi
        simp at this
        omega
      have hx : l[i]? = some x := by
        have := congrArg (fun q => q[0]?) hi
        simpa using this
      have hd : l.drop (i + 1) = xs := by
        have := congrArg List.tail hi
        simpa using this
      rw [timer_Right.r1, may_tells, Option.bind_some]
      cases hm : may x with
      | false => exact ⟨false, rfl, ⟨(fun h => by cases h), fun h => by have := h.1 x (by simp); rw [hm] at this; cases this⟩⟩
      | true =>
        rw [if_pos rfl, if_pos (by omega), timer_of.f, Option.bind_some]
        simp only [Int.toNat_natCast, take_drop0]
        rw [contains_tells k _ _ _ (by rw [List.length_take]; omega) (by rw [List.length_take]; omega), Option.bind_some]
        cases ha : (l.take i).any (has x.f1 x.f2) with
        | true => exact ⟨false, rfl, ⟨(fun h => by cases h), fun h => by have := h.2.1 i x (Nat.le_refl _) hx; rw [ha] at this; cases this⟩⟩
        | false =>
          obtain ⟨b, h1, h2⟩ := ih (i + 1) hd
          refine ⟨b, h1, h2.trans ⟨fun h => ⟨?_, fun j y hj hy => ?_, h.2.2⟩, fun h => ⟨fun y hy => h.1 y (by simp [hy]), fun j y hj hy => h.2.1 j y (by omega) hy, h.2.2⟩⟩⟩
          · intro y hy
            rcases List.mem_cons.1 hy with rfl | hy
            · exact hm
            · exact h.1 y hy
          · rcases Nat.lt_or_ge i j with h3 | h3
            · exact h.2.1 j y h3 hy
            · obtain rfl : j = i := by omega
              rw [hx] at hy
              obtain rfl := Option.some.inj hy
              exact ha
  unfold timer_Right.f
  have := timer_Right.r1_eq k l (by omega) k 0 (by omega) (by omega)
  rw [show ((0 : Nat) : Int) = 0 from rfl, List.drop_zero] at this
  rw [this]
  obtain ⟨b, h1, h2⟩ := nodup true l 0 rfl
  refine ⟨b, h1, h2.trans ⟨fun h => ⟨h.2.2.1, h.1, ?_⟩, fun h => ⟨h.2.1, fun j x _ hx => ?_, h.1, fun i x y hx hy hc => ?_⟩⟩⟩
  · have hn : ∀ (i j : Nat) (x y : S23), i < j → l[i]? = some x → l[j]? = some y → ¬ (x.f1 = y.f1 ∧ x.f2 = y.f2) := by
      rintro i j x y hij hx hy ⟨e1, e2⟩
      have := h.2.1 j y (Nat.zero_le _) hy
      rw [List.any_eq_false] at this
      refine this x ?_ ?_
      · refine List.mem_of_getElem? (i := i) ?_
        rw [List.getElem?_take, if_pos hij]
        exact hx
      · simp [has, e1, e2]
    have hadj : ∀ (i : Nat) (x y : S23), l[i]? = some x → l[i + 1]? = some y → lt x y := by
      intro i x y hx hy
      have h3 := h.2.2.2 i x y hx hy
      have h4 := hn i (i + 1) x y (by omega) hx hy
      unfold lt at *
      omega
    have hall : ∀ (d i : Nat) (x y : S23), l[i]? = some x → l[i + 1 + d]? = some y → lt x y := by
      intro d
      induction d with
      | zero => intro i x y hx hy; exact hadj i x y hx hy
      | succ d ih =>
        intro i x y hx hy
        have hlt := (List.getElem?_eq_some_iff.1 hy).1
        have hz : l[i + 1 + d]? = some l[i + 1 + d] := List.getElem?_eq_getElem (by omega)
        exact lt_trans (ih i x _ hx hz) (hadj (i + 1 + d) _ y hz hy)
    refine pw_of_get fun i j x y hij hx hy => ⟨hall (j - i - 1) i x y hx (by rw [show i + 1 + (j - i - 1) = j by omega]; exact hy), hn i j x y hij hx hy⟩
  · rw [List.any_eq_false]
    intro y hy
    obtain ⟨i, hi⟩ := List.getElem?_of_mem hy
    rw [List.getElem?_take] at hi
    split at hi
    · rename_i hij
      have := (pw_get h.2.2 hij hi hx).2
      simp only [has, Bool.and_eq_true, beq_iff_eq]
      exact this
    · cases hi
  · have := (pw_get h.2.2 (Nat.lt_succ_self i) hx hy).1
    unfold lt at *
    omega

theorem Rt_sub {l l' : List S23} (h : Rt l) (hs : l'.Sublist l) : Rt l' := ⟨Nat.le_trans hs.length_le h.1, fun x hx => h.2.1 x (hs.subset hx), h.2.2.sublist hs⟩
theorem same_tells (k : Nat) (a b : List S23) (hk : a.length < k) (hs : a.length < 1000000) : tarryref10_Same.f k a b = some (decide (a = b)) := by
  unfold tarryref10_Same.f
  by_cases hlen : a.length = b.length
  · rw [if_pos (by omega)]
    have key : ∀ (xs : List S23) (i : Nat), a.drop i = xs → tarryref10_Same.r1 k a b xs i = some (decide (xs = b.drop i)) := by
      intro xs
      induction xs with
      | nil =>
        intro i hi
        have : a.length ≤ i := by have := congrArg List.length hi; simp at this; omega
        rw [tarryref10_Same.r1, List.drop_of_length_le (by omega)]
        rfl
      | cons x xs ih =>
        intro i hi
        have hli : i < a.length := by have := congrArg List.length hi; simp at this; omega
        have hd : a.drop (i + 1) = xs := by simpa using congrArg List.tail hi
        rw [tarryref10_Same.r1, Int.toNat_natCast, List.getElem?_eq_getElem (by omega), Option.bind_some, List.drop_eq_getElem_cons (by omega : i < b.length), ih (i + 1) hd]
        by_cases hx : x = b[i]
        · rw [if_pos (by rw [hx]; simp)]
          congr 1
          rw [decide_eq_decide, hx]
          exact ⟨fun e => by rw [e], fun e => (List.cons.inj e).2⟩
        · rw [if_neg]
          · rw [decide_eq_false (fun e => hx (List.cons.inj e).1)]
          · simp only [Bool.and_eq_true, beq_iff_eq]
            exact fun h => hx (eq_of _ _ h.1 h.2.1 h.2.2)
    have := tarryref10_Same.r1_eq k a b (by omega) k 0 (by omega) (by omega)
    rw [show ((0 : Nat) : Int) = 0 from rfl, List.drop_zero] at this
    rw [this, key a 0 rfl, List.drop_zero]
  · rw [if_neg (by omega), decide_eq_false (fun e => hlen (by rw [e]))]

theorem few_tells (l : List S23) : tarrylaw10_few.f l = some (l.take 98) := by
  have e : mn (l.length : Int) 98 = ((min l.length 98 : Nat) : Int) := by unfold mn; split <;> omega
  unfold tarrylaw10_few.f
  rw [e, if_pos (by omega), if_pos (by omega), Int.toNat_natCast, take_drop0]
  congr 1
  rcases Nat.le_total l.length 98 with h | h
  · rw [Nat.min_eq_left h, List.take_length, List.take_of_length_le h]
  · rw [Nat.min_eq_right h]
theorem alive_tells : tarrylaw10_alive.f 200 = some true := by decide +kernel
theorem few_le (l : List S23) : (l.take 98).length ≤ 99 := by rw [List.length_take]; omega

theorem dparted_tells (k : Nat) (now : Int) (l : List S23) (hk : l.length < k) (hs : l.length < 1000000) : timer_parted_Timer.f k l now = some (l.filter (fun x => decide (x.f0 ≤ now)), l.filter (fun x => !decide (x.f0 ≤ now))) := by
  have key : ∀ (xs ys zs : List S23), xs.length + ys.length + zs.length < 2000000 → timer_parted_Timer.r1 k now l xs ys zs = some (ys ++ xs.filter (fun x => decide (x.f0 ≤ now)), zs ++ xs.filter (fun x => !decide (x.f0 ≤ now))) := by
    intro xs
    induction xs with
    | nil => intro ys zs _; simp [timer_parted_Timer.r1]
    | cons x xs ih =>
      intro ys zs h
      simp only [List.length_cons] at h
      rw [timer_parted_Timer.r1, timer_Due_1.f, Option.bind_some]
      by_cases hx : x.f0 ≤ now
      · rw [if_pos (decide_eq_true hx), if_pos (by simp; omega), ih _ _ (by simp; omega)]
        simp [hx]
      · rw [if_neg (by simpa using hx), if_pos (by simp; omega), ih _ _ (by simp; omega)]
        simp [hx]
  have := timer_parted_Timer.r1_eq k now l (by omega) k 0 [] [] (by omega) (by omega)
  rw [show ((0 : Nat) : Int) = 0 from rfl, List.drop_zero] at this
  unfold timer_parted_Timer.f
  rw [this, key l [] [] (by simp; omega)]
  rfl
def du (now : Int) (l : List S23) : List S23 := l.filter (fun x => decide (x.f0 ≤ now))
def nd (now : Int) (l : List S23) : List S23 := l.filter (fun x => !decide (x.f0 ≤ now))
theorem due_tells (k : Nat) (hk : 100 ≤ k) (now : Int) (l : List S23) (h : Rt l) : timer_Due.f k l now = some (du now l, nd now l, 0) := by
  have hl := h.1
  obtain ⟨c, h1, h2⟩ := right_tells k hk l (by omega)
  obtain rfl : c = true := h2.2 h
  unfold timer_Due.f
  rw [h1, Option.bind_some, if_pos rfl, dparted_tells k now l (by omega) (by omega)]
  rfl
theorem due_bad (k : Nat) (hk : 100 ≤ k) (now : Int) (l : List S23) (hl : l.length ≤ 99) (h : ¬ Rt l) : timer_Due.f k l now = some ([], [], 1) := by
  obtain ⟨c, h1, h2⟩ := right_tells k hk l hl
  unfold timer_Due.f
  rw [h1, Option.bind_some, if_neg (fun e => h (h2.1 e))]

def nx : List S23 → Int × Int
  | [] => (0, 8)
  | x :: _ => (x.f0, 0)
theorem next_tells (k : Nat) (hk : 100 ≤ k) (l : List S23) (h : Rt l) : timer_Next.f k l = some (nx l) := by
  have hl := h.1
  obtain ⟨c, h1, h2⟩ := right_tells k hk l (by omega)
  obtain rfl : c = true := h2.2 h
  unfold timer_Next.f
  rw [h1, Option.bind_some, if_pos rfl]
  cases l with
  | nil => rfl
  | cons x xs => rw [if_neg (by simp; omega)]; rfl
theorem next_bad (k : Nat) (hk : 100 ≤ k) (l : List S23) (hl : l.length ≤ 99) (h : ¬ Rt l) : timer_Next.f k l = some (0, 1) := by
  obtain ⟨c, h1, h2⟩ := right_tells k hk l hl
  unfold timer_Next.f
  rw [h1, Option.bind_some, if_neg (fun e => h (h2.1 e))]
theorem tm_in (a : Int) : ∃ n : Int, (wrap64 ((a.tmod 100) + 100)).tmod 100 = n ∧ 0 ≤ n ∧ n ≤ 99 := by
  have h1 := Int.tmod_lt_of_pos a (b := 100) (by decide)
  have h2 := Int.lt_tmod_of_pos a (b := 100) (by decide)
  generalize a.tmod 100 = t at *
  have hw : wrap64 (t + 100) = t + 100 := w64n (by omega) (by omega)
  refine ⟨_, rfl, ?_⟩
  rw [hw, Int.tmod_eq_emod_of_nonneg (by omega)]
  omega
theorem ddowns {l : List S23} (h : Rt l) (n : Int) : Downs (fun y : S23 => decide (y.f0 ≤ n)) l := fun i j a b hij ha hb hp => by
  have := (pw_get h.2.2 hij ha hb).1
  simp only [decide_eq_true_eq] at hp ⊢
  unfold lt at this
  omega
theorem TimerPasses : tarrylaw10_TimerPasses.Pure := by
  intro l0 a1 a2 _ _ _
  refine ⟨200, ?_⟩
  unfold tarrylaw10_TimerPasses.f
  rw [few_tells, Option.bind_some]
  have hl := few_le l0
  generalize l0.take 98 = l at hl
  obtain ⟨n, hn, hn0, hn1⟩ := tm_in a1
  obtain ⟨b, hb, hb0, hb1⟩ := tm_in a2
  rw [hn, hb]
  clear hn hb
  rw [w64n (by omega) (by omega)]
  by_cases hr : Rt l
  case neg =>
    rw [due_bad 200 (by omega) n l hl hr]
    obtain ⟨c, h1, h2⟩ := right_tells 200 (by omega) l hl
    have : c = false := by cases c with | false => rfl | true => exact absurd (h2.1 rfl) hr
    subst this
    simp [alive_tells, h1]
  have hl96 := hr.1
  have hrn : Rt (nd n l) := Rt_sub hr List.filter_sublist
  have hnl : (nd n l).length ≤ l.length := List.length_filter_le _ _
  have hdl : (du n l).length ≤ l.length := List.length_filter_le _ _
  have hno : du n (nd n l) = [] := by
    unfold du nd
    rw [List.filter_eq_nil_iff]
    intro x hx
    have := (List.mem_filter.1 hx).2
    simpa using this
  have hsame : nd n (nd n l) = nd n l := by
    unfold nd
    rw [List.filter_filter]
    simp
  have hsum : (du n l).length + (nd n l).length = l.length := filter_split _ l
  have e1 := filter_tw (ddowns hr n)
  have e2 := filter_tw (ddowns hr (n + b))
  have hmono := tw_mono (p := fun y : S23 => decide (y.f0 ≤ n)) (q := fun y => decide (y.f0 ≤ n + b)) (fun x hx => by simp only [decide_eq_true_eq] at hx ⊢; omega) l
  have hlen : (du n l).length ≤ (du (n + b) l).length := by unfold du; rw [e1, e2]; exact hmono
  have hpre : (du (n + b) l).take (du n l).length = du n l := by
    unfold du
    rw [e1, e2, ← take_tw (fun y : S23 => decide (y.f0 ≤ n + b)), List.take_take, Nat.min_eq_left hmono, take_tw]
  have hw : wrap64 (((du n l).length : Int) + ((nd n l).length : Int)) = (l.length : Int) := by rw [w64n (by omega) (by omega)]; omega
  have hs1 := same_tells 200 (nd n l) (nd n l) (by omega) (by omega)
  have hs2 := same_tells 200 (du n l) (du n l) (by omega) (by omega)
  simp only [due_tells 200 (by omega) n l hr, due_tells 200 (by omega) (n + b) l hr, due_tells 200 (by omega) n (nd n l) hrn, next_tells 200 (by omega) _ hrn, hno, hsame, Option.bind_some, if_true, List.length_nil, hs1, hw, Int.toNat_natCast, take_drop0, hpre, hs2, decide_true, alive_tells]
  rw [if_pos (by decide), if_neg (by omega), if_pos (by omega), if_pos (by omega)]
  cases hc : nd n l with
  | nil => simp [nx]
  | cons x xs =>
    have hx : x ∈ nd n l := by rw [hc]; simp
    have hx2 := (List.mem_filter.1 hx).2
    have hx3 : n < x.f0 := by simpa using hx2
    simp [hx3, nx]
end Go.Proofs.Ytmcfgahjchkgaaa.Pure
