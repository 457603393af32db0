/- TimerOrders: what may be stays such, two timers of unlike kinds or orders stand the same in whichever order they are set, of the same the last one stands, cleared it is as if it had not been; no further condition. -/
import Derived.Test.YtmcfgahjchkgaaaRTimerOrders
namespace Go.Proofs.Ytmcfgahjchkgaaa.Pure
open Go Go.RowKit Go.Proofs.Ytmcfgahjchkgaaa.PTimerOrders Go.Proofs.YtmcfgahjchkgaaaV 
set_option linter.unusedSimpArgs false
set_option linter.unusedVariables false
theorem take_drop0 {α : Type} (l : List α) (i : Nat) : (l.take i).drop 0 = l.take i := rfl
theorem w64n {n : Int} (h1 : -9000000000000000000 ≤ n) (h2 : n ≤ 9000000000000000000) : wrap64 n = n := by unfold wrap64; omega
/-- A binary search's middle. -/
theorem mid_is {i j : Nat} (hi : i ≤ 1000000) (hj : j ≤ 1000000) : wrap64 ((IntKind.u64.wrap (wrap64 ((i : Int) + (j : Int)))).fdiv (2 ^ min (1 : Int).toNat IntKind.u64.bits)) = (((i + j) / 2 : Nat) : Int) := by
  have e1 : wrap64 ((i : Int) + (j : Int)) = ((i + j : Nat) : Int) := by unfold wrap64; omega
  have e2 : IntKind.u64.wrap ((i + j : Nat) : Int) = ((i + j : Nat) : Int) := by
    have h : IntKind.u64.wrap ((i + j : Nat) : Int) = ((i + j : Nat) : Int) % 18446744073709551616 := rfl
    rw [h]
    omega
  have e3 : (2 : Int) ^ min (1 : Int).toNat IntKind.u64.bits = 2 := by decide
  rw [e1, e2, e3, Int.fdiv_eq_ediv_of_nonneg _ (by decide)]
  unfold wrap64
  omega
/-- The things ahead of the first one that is not so. -/
theorem tw_len_le {α : Type} (p : α → Bool) (l : List α) : (l.takeWhile p).length ≤ l.length := by
  induction l with
  | nil => simp
  | cons x xs ih => rw [List.takeWhile_cons]; split <;> simp <;> omega
theorem tw_lt {α : Type} (p : α → Bool) : ∀ (l : List α) (i : Nat) (x : α), l[i]? = some x → i < (l.takeWhile p).length → p x = true
  | [], i, x, h, _ => by simp at h
  | y :: l, 0, x, h, hi => by
    simp only [List.getElem?_cons_zero, Option.some.injEq] at h
    subst h
    rw [List.takeWhile_cons] at hi
    by_cases hp : p y = true
    · exact hp
    · rw [if_neg hp] at hi; simp at hi
  | y :: l, i + 1, x, h, hi => by
    simp only [List.getElem?_cons_succ] at h
    rw [List.takeWhile_cons] at hi
    split at hi
    · exact tw_lt p l i x h (by simpa using hi)
    · simp at hi
theorem tw_at {α : Type} (p : α → Bool) : ∀ (l : List α) (x : α), l[(l.takeWhile p).length]? = some x → p x = false
  | [], x, h => by simp at h
  | y :: l, x, h => by
    rw [List.takeWhile_cons] at h
    by_cases hp : p y = true
    · rw [if_pos hp] at h
      simp only [List.length_cons, List.getElem?_cons_succ] at h
      exact tw_at p l x h
    · rw [if_neg hp] at h
      simp only [List.length_nil, List.getElem?_cons_zero, Option.some.injEq] at h
      subst h
      simpa using hp
/-- Where what is so stands ahead of what is not. -/
def Downs {α : Type} (p : α → Bool) (l : List α) : Prop := ∀ (i j : Nat) (x y : α), i < j → l[i]? = some x → l[j]? = some y → p y = true → p x = true
theorem tw_ge {α : Type} {p : α → Bool} {l : List α} (h : Downs p l) {i : Nat} {x : α} (hx : l[i]? = some x) (hi : (l.takeWhile p).length ≤ i) : p x = false := by
  have hl := (List.getElem?_eq_some_iff.1 hx).1
  obtain ⟨y, hn⟩ : ∃ y, l[(l.takeWhile p).length]? = some y := ⟨_, List.getElem?_eq_getElem (by omega)⟩
  have h0 := tw_at p l _ hn
  rcases Nat.lt_or_eq_of_le hi with h1 | h1
  · cases hp : p x with
    | false => rfl
    | true => rw [h _ _ _ _ h1 hn hx hp] at h0; cases h0
  · rw [h1, hx] at hn
    obtain rfl := Option.some.inj hn
    exact h0
theorem take_tw {α : Type} (p : α → Bool) (l : List α) : l.take (l.takeWhile p).length = l.takeWhile p := by
  induction l with
  | nil => rfl
  | cons x xs ih => rw [List.takeWhile_cons]; split <;> simp [ih]
theorem drop_tw {α : Type} (p : α → Bool) (l : List α) : l.drop (l.takeWhile p).length = l.dropWhile p := by
  induction l with
  | nil => rfl
  | cons x xs ih => rw [List.takeWhile_cons, List.dropWhile_cons]; split <;> simp [ih]
theorem pw_get {α : Type} {R : α → α → Prop} {l : List α} (h : l.Pairwise R) {i j : Nat} {x y : α} (hij : i < j) (hx : l[i]? = some x) (hy : l[j]? = some y) : R x y := by
  obtain ⟨h1, rfl⟩ := List.getElem?_eq_some_iff.1 hx
  obtain ⟨h2, rfl⟩ := List.getElem?_eq_some_iff.1 hy
  exact List.pairwise_iff_getElem.1 h i j h1 h2 hij
theorem pw_of_get {α : Type} {R : α → α → Prop} {l : List α} (h : ∀ (i j : Nat) (x y : α), i < j → l[i]? = some x → l[j]? = some y → R x y) : l.Pairwise R :=
  List.pairwise_iff_getElem.2 fun i j h1 h2 hij => h i j _ _ hij (List.getElem?_eq_getElem h1) (List.getElem?_eq_getElem h2)
theorem drop_cons_is {α : Type} {l : List α} {i : Nat} {x : α} {xs : List α} (h : l.drop i = x :: xs) : i < l.length ∧ l[i]? = some x ∧ l.drop (i + 1) = xs := by
  have h1 : i < l.length := by have := congrArg List.length h; simp at this; omega
  rw [List.drop_eq_getElem_cons h1] at h
  obtain ⟨h2, h3⟩ := List.cons.inj h
  exact ⟨h1, by rw [List.getElem?_eq_getElem h1, h2], h3⟩
theorem drop_nil_is {α : Type} {l : List α} {i : Nat} (h : l.drop i = []) : l.length ≤ i := by have := congrArg List.length h; simp at this; omega
theorem filter_split {α : Type} (p : α → Bool) (l : List α) : (l.filter p).length + (l.filter (fun x => !p x)).length = l.length := by
  induction l with
  | nil => rfl
  | cons x xs ih => by_cases h : p x = true <;> simp [List.filter_cons, h] <;> omega
theorem mem_tw_dw {α : Type} (p : α → Bool) (l : List α) (y : α) : (y ∈ l.takeWhile p ∨ y ∈ l.dropWhile p) ↔ y ∈ l := by
  rw [← List.mem_append, List.takeWhile_append_dropWhile]
theorem mem_tw {α : Type} {p : α → Bool} {l : List α} {y : α} (h : y ∈ l.takeWhile p) : p y = true := by
  obtain ⟨i, hi⟩ := List.getElem?_of_mem h
  have hlt := (List.getElem?_eq_some_iff.1 hi).1
  rw [← take_tw, List.getElem?_take, if_pos hlt] at hi
  exact tw_lt p l i y hi hlt
theorem mem_dw {α : Type} {p : α → Bool} {l : List α} (hd : Downs p l) {y : α} (h : y ∈ l.dropWhile p) : p y = false := by
  obtain ⟨i, hi⟩ := List.getElem?_of_mem h
  rw [← drop_tw, List.getElem?_drop] at hi
  exact tw_ge hd hi (by omega)
/-- Two rows that rise, of the same things, are the same row. -/
theorem eq_of_rise {α : Type} {R : α → α → Prop} (irr : ∀ a b, R a b → ¬ R b a) : ∀ (l l' : List α), l.Pairwise R → l'.Pairwise R → (∀ x, x ∈ l ↔ x ∈ l') → l = l'
  | [], [], _, _, _ => rfl
  | [], b :: l', _, _, h => by have := (h b).2 (by simp); cases this
  | a :: l, [], _, _, h => by have := (h a).1 (by simp); cases this
  | a :: l, b :: l', h1, h2, h => by
    rw [List.pairwise_cons] at h1 h2
    have hab : a = b := by
      rcases List.mem_cons.1 ((h a).1 (by simp)) with e | e
      · exact e
      rcases List.mem_cons.1 ((h b).2 (by simp)) with e2 | e2
      · exact e2.symm
      exact absurd (h1.1 b e2) (irr _ _ (h2.1 a e))
    subst hab
    have hna : ∀ x, R x x → False := fun x hx => irr x x hx hx
    rw [eq_of_rise irr l l' h1.2 h2.2 fun x => ⟨fun hx => ?_, fun hx => ?_⟩]
    · rcases List.mem_cons.1 ((h x).1 (by simp [hx])) with e | e
      · subst e; exact absurd (h1.1 _ hx) (hna _)
      · exact e
    · rcases List.mem_cons.1 ((h x).2 (by simp [hx])) with e | e
      · subst e; exact absurd (h2.1 _ hx) (hna _)
      · exact e
theorem filter_tw {α : Type} {p : α → Bool} : ∀ {l : List α}, Downs p l → l.filter p = l.takeWhile p
  | [], _ => rfl
  | x :: xs, h => by
    by_cases hx : p x = true
    · rw [List.filter_cons, if_pos hx, List.takeWhile_cons, if_pos hx, filter_tw (l := xs) fun i j a b hij ha hb hp => h (i + 1) (j + 1) a b (by omega) (by simpa using ha) (by simpa using hb) hp]
    · rw [List.takeWhile_cons, if_neg hx, List.filter_eq_nil_iff]
      intro y hy hp
      obtain ⟨j, hj⟩ := List.getElem?_of_mem hy
      cases j with
      | zero => simp at hj; subst hj; exact hx hp
      | succ j => exact hx (h 0 (j + 1) x y (by omega) rfl hj hp)
theorem tw_mono {α : Type} {p q : α → Bool} (h : ∀ x, p x = true → q x = true) (l : List α) : (l.takeWhile p).length ≤ (l.takeWhile q).length := by
  induction l with
  | nil => simp
  | cons x xs ih =>
    rw [List.takeWhile_cons, List.takeWhile_cons]
    by_cases hx : p x = true
    · rw [if_pos hx, if_pos (h x hx)]; simp; omega
    · rw [if_neg hx]; simp
def may (x : S23) : Bool := decide (x.f0 ≥ 0 ∧ x.f0 ≤ 1099511627776 ∧ x.f1 ≥ 1 ∧ x.f1 ≤ 3 ∧ x.f2 ≥ 1 ∧ x.f2 ≤ 1099511627776)
theorem may_tells (x : S23) : timer_may.f x.f0 x.f1 x.f2 = some (may x) := by
  unfold timer_may.f may
  repeat' split
  all_goals first | (congr 1; rw [decide_eq_decide]; omega) | (congr 1; symm; apply decide_eq_false; omega)
theorem may2_tells (a b c : Int) : timer_may.f a b c = some (may ⟨a, b, c⟩) := may_tells ⟨a, b, c⟩
def has (a b : Int) (x : S23) : Bool := x.f1 == a && x.f2 == b
theorem of_tells (x : S23) (a b : Int) : timer_of_1.f x.f0 x.f1 x.f2 a b = some (has a b x) := by
  unfold timer_of_1.f has
  split
  · rename_i h; simp [h]
  · rename_i h; simp [h]
theorem contains_tells (k : Nat) (a b : Int) (l : List S23) (hk : l.length < k) (hs : l.length < 1000000) : slices_ContainsFunc_api_Timer_api_Timer.f k l a b = some (l.any (has a b)) := by
  have key : ∀ (xs : List S23) (i : Nat), ∃ j, slices_IndexFunc_api_Timer_api_Timer.r1 k a b l xs i = some j ∧ decide (j ≥ 0) = xs.any (has a b) := by
    intro xs
    induction xs with
    | nil => intro i; exact ⟨-1, rfl, rfl⟩
    | cons x xs ih =>
      intro i
      rw [slices_IndexFunc_api_Timer_api_Timer.r1, of_tells, Option.bind_some, List.any_cons]
      cases has a b x with
      | true => exact ⟨i, rfl, by simp⟩
      | false => simpa using ih (i + 1)
  unfold slices_ContainsFunc_api_Timer_api_Timer.f slices_IndexFunc_api_Timer_api_Timer.f
  have := slices_IndexFunc_api_Timer_api_Timer.r1_eq k a b l (by omega) k 0 (by omega) (by omega)
  rw [show ((0 : Nat) : Int) = 0 from rfl, List.drop_zero] at this
  rw [this]
  obtain ⟨j, h1, h2⟩ := key l 0
  rw [h1, Option.bind_some, h2]
def cmpI (a b : Int) : Int := if a < b then -1 else if a > b then 1 else 0
theorem cmpI_tells (a b : Int) : cmp_Compare_int.f a b = some (cmpI a b) := by
  unfold cmp_Compare_int.f cmp_isNaN_int.f cmpI
  simp only [Option.bind_some, bne_self_eq_false, Bool.false_eq_true, if_false]
  split
  · rfl
  · split <;> rfl
def cmp (a b : S23) : Int := if cmpI a.f0 b.f0 = 0 then (if cmpI a.f1 b.f1 = 0 then cmpI a.f2 b.f2 else cmpI a.f1 b.f1) else cmpI a.f0 b.f0
theorem cmp_tells (k : Nat) (hk : 4 ≤ k) (a b : S23) : timer_compare.f k a.f0 a.f1 a.f2 b.f0 b.f1 b.f2 = some (cmp a b) := by
  unfold timer_compare.f
  rw [cmpI_tells, cmpI_tells, cmpI_tells]
  simp only [Option.bind_some]
  unfold cmp_Or_int.f
  have := cmp_Or_int.r1_eq k [cmpI a.f0 b.f0, cmpI a.f1 b.f1, cmpI a.f2 b.f2] (by simp) k 0 (by simp; omega) (by simp)
  rw [show ((0 : Nat) : Int) = 0 from rfl, List.drop_zero] at this
  rw [this]
  unfold cmp
  simp only [cmp_Or_int.r1]
  split
  · split
    · split
      · rename_i h; rw [h]; rfl
      · rfl
    · rfl
  · rfl
def lt (a b : S23) : Prop := a.f0 < b.f0 ∨ a.f0 = b.f0 ∧ (a.f1 < b.f1 ∨ a.f1 = b.f1 ∧ a.f2 < b.f2)
instance (a b : S23) : Decidable (lt a b) := by unfold lt; exact inferInstance
theorem cmpI_neg (a b : Int) : (cmpI a b < 0 ↔ a < b) ∧ (cmpI a b = 0 ↔ a = b) ∧ (cmpI a b > 0 ↔ b < a) := by unfold cmpI; split <;> (try split) <;> omega
theorem cmp_is (a b : S23) : (cmp a b < 0 ↔ lt a b) ∧ (cmp a b > 0 ↔ lt b a) := by
  have h0 := cmpI_neg a.f0 b.f0
  have h1 := cmpI_neg a.f1 b.f1
  have h2 := cmpI_neg a.f2 b.f2
  unfold cmp lt
  split <;> (try split) <;> omega
theorem eq_of (a b : S23) (h0 : a.f0 = b.f0) (h1 : a.f1 = b.f1) (h2 : a.f2 = b.f2) : a = b := by cases a; cases b; simp_all
instance : DecidableEq S23 := fun a b => if h : a.f0 = b.f0 ∧ a.f1 = b.f1 ∧ a.f2 = b.f2 then isTrue (eq_of a b h.1 h.2.1 h.2.2) else isFalse (fun e => h (by rw [e]; exact ⟨rfl, rfl, rfl⟩))
/-- What timers may be. -/
def Rt (l : List S23) : Prop := l.length ≤ 96 ∧ (∀ x ∈ l, may x = true) ∧ l.Pairwise (fun y x => lt y x ∧ ¬ (y.f1 = x.f1 ∧ y.f2 = x.f2))
theorem sorted_tells (k : Nat) (hk : 4 ≤ k) (l : List S23) (hs : l.length < 1000000) (hk2 : l.length < k) : ∃ b, slices_IsSortedFunc_api_Timer_api_Timer.f k l = some b ∧ (b = true ↔ ∀ (i : Nat) (x y : S23), l[i]? = some x → l[i + 1]? = some y → ¬ lt y x) := by
  have key : ∀ (n m : Nat), n < l.length → n < m → ∃ b, slices_IsSortedFunc_api_Timer_api_Timer.l1 k l m (n : Int) = some b ∧ (b = true ↔ ∀ (i : Nat) (x y : S23), i + 1 ≤ n → l[i]? = some x → l[i + 1]? = some y → ¬ lt y x) := by
    intro n
    induction n with
    | zero =>
      intro m hn hm
      obtain ⟨m, rfl⟩ : ∃ q, m = q + 1 := ⟨m - 1, by omega⟩
      exact ⟨true, rfl, ⟨fun _ i x y h => by omega, fun _ => rfl⟩⟩
    | succ n ih =>
      intro m hn hm
      obtain ⟨m, rfl⟩ : ∃ q, m = q + 1 := ⟨m - 1, by omega⟩
      have e1 : wrap64 (((n + 1 : Nat) : Int) - 1) = (n : Int) := by unfold wrap64; omega
      rw [slices_IsSortedFunc_api_Timer_api_Timer.l1, if_pos (by omega), if_pos (by omega), Int.toNat_natCast, List.getElem?_eq_getElem hn, Option.bind_some, e1, if_pos (by omega), Int.toNat_natCast, List.getElem?_eq_getElem (by omega), Option.bind_some, cmp_tells k hk, Option.bind_some]
      by_cases hc : cmp l[n + 1] l[n] < 0
      · rw [if_pos hc]
        refine ⟨false, rfl, ⟨(fun h => by cases h), fun h => absurd ((cmp_is _ _).1.1 hc) (h n _ _ (Nat.le_refl _) (List.getElem?_eq_getElem (by omega)) (List.getElem?_eq_getElem hn))⟩⟩
      · rw [if_neg hc]
        obtain ⟨b, h1, h2⟩ := ih m (by omega) (by omega)
        refine ⟨b, h1, h2.trans ⟨fun h i x y hi hx hy => ?_, fun h i x y hi hx hy => h i x y (by omega) hx hy⟩⟩
        rcases Nat.lt_or_ge (i + 1) (n + 1) with h3 | h3
        · exact h i x y (by omega) hx hy
        · obtain rfl : i = n := by omega
          rw [List.getElem?_eq_getElem hn] at hy
          rw [List.getElem?_eq_getElem (by omega)] at hx
          obtain rfl := Option.some.inj hx
          obtain rfl := Option.some.inj hy
          exact fun h4 => hc ((cmp_is _ _).1.2 h4)
  unfold slices_IsSortedFunc_api_Timer_api_Timer.f
  rcases Nat.eq_zero_or_pos l.length with h0 | h0
  · have e : l = [] := List.eq_nil_of_length_eq_zero h0
    subst e
    obtain ⟨k, rfl⟩ : ∃ q, k = q + 1 := ⟨k - 1, by omega⟩
    exact ⟨true, by rw [slices_IsSortedFunc_api_Timer_api_Timer.l1, if_neg (by simp only [List.length_nil]; unfold wrap64; omega)], ⟨fun _ i x y h => by simp at h, fun _ => rfl⟩⟩
  · have e1 : wrap64 ((l.length : Int) - 1) = ((l.length - 1 : Nat) : Int) := by unfold wrap64; omega
    rw [e1]
    obtain ⟨b, h1, h2⟩ := key (l.length - 1) k (by omega) (by omega)
    refine ⟨b, h1, h2.trans ⟨fun h i x y hx hy => h i x y ?_ hx hy, fun h i x y _ hx hy => h i x y hx hy⟩⟩
    have := (List.getElem?_eq_some_iff.1 hy).1
    omega
theorem lt_trans {a b c : S23} (h1 : lt a b) (h2 : lt b c) : lt a c := by unfold lt at *; omega
theorem right_tells (k : Nat) (hk : 100 ≤ k) (l : List S23) (hl : l.length ≤ 99) : ∃ b, timer_Right.f k l = some b ∧ (b = true ↔ Rt l) := by
  have nodup : ∀ (b : Bool) (xs : List S23) (i : Nat), l.drop i = xs → (∃ b, timer_Right.r1 k l xs i = some b ∧ (b = true ↔ (∀ x ∈ xs, may x = true) ∧ (∀ (j : Nat) (x : S23), i ≤ j → l[j]? = some x → (l.take j).any (has x.f1 x.f2) = false) ∧ l.length ≤ 96 ∧ ∀ (i : Nat) (x y : S23), l[i]? = some x → l[i + 1]? = some y → ¬ lt y x)) := by
    intro _ xs
    induction xs with
    | nil =>
      intro i hi
      rw [timer_Right.r1]
      have hli : l.length ≤ i := by have := congrArg List.length hi; simp at this; omega
      have hv : ∀ (j : Nat) (x : S23), i ≤ j → l[j]? = some x → (l.take j).any (has x.f1 x.f2) = false := fun j x hj hx => by have := (List.getElem?_eq_some_iff.1 hx).1; omega
      split
      · obtain ⟨b, h1, h2⟩ := sorted_tells k (by omega) l (by omega) (by omega)
        rw [h1, Option.bind_some]
        exact ⟨b, rfl, h2.trans ⟨fun h => ⟨by simp, hv, by omega, h⟩, fun h => h.2.2.2⟩⟩
      · exact ⟨false, rfl, ⟨(fun h => by cases h), fun h => by omega⟩⟩
    | cons x xs ih =>
      intro i hi
      have hli : i < l.length := by
        have := congrArg List.length hi
        simp at this
        omega
      have hx : l[i]? = some x := by
        have := congrArg (fun q => q[0]?) hi
        simpa using this
      have hd : l.drop (i + 1) = xs := by
        have := congrArg List.tail hi
        simpa using this
      rw [timer_Right.r1, may_tells, Option.bind_some]
      cases hm : may x with
      | false => exact ⟨false, rfl, ⟨(fun h => by cases h), fun h => by have := h.1 x (by simp); rw [hm] at this; cases this⟩⟩
      | true =>
        rw [if_pos rfl, if_pos (by omega), timer_of.f, Option.bind_some]
        simp only [Int.toNat_natCast, take_drop0]
        rw [contains_tells k _ _ _ (by rw [List.length_take]; omega) (by rw [List.length_take]; omega), Option.bind_some]
        cases ha : (l.take i).any (has x.f1 x.f2) with
        | true => exact ⟨false, rfl, ⟨(fun h => by cases h), fun h => by have := h.2.1 i x (Nat.le_refl _) hx; rw [ha] at this; cases this⟩⟩
        | false =>
          obtain ⟨b, h1, h2⟩ := ih (i + 1) hd
          refine ⟨b, h1, h2.trans ⟨fun h => ⟨?_, fun j y hj hy => ?_, h.2.2⟩, fun h => ⟨fun y hy => h.1 y (by simp [hy]), fun j y hj hy => h.2.1 j y (by omega) hy, h.2.2⟩⟩⟩
          · intro y hy
            rcases List.mem_cons.1 hy with rfl | hy
            · exact hm
            · exact h.1 y hy
          · rcases Nat.lt_or_ge i j with h3 | h3
            · exact h.2.1 j y h3 hy
            · obtain rfl : j = i := by omega
              rw [hx] at hy
              obtain rfl := Option.some.inj hy
              exact ha
  unfold timer_Right.f
  have := timer_Right.r1_eq k l (by omega) k 0 (by omega) (by omega)
  rw [show ((0 : Nat) : Int) = 0 from rfl, List.drop_zero] at this
  rw [this]
  obtain ⟨b, h1, h2⟩ := nodup true l 0 rfl
  refine ⟨b, h1, h2.trans ⟨fun h => ⟨h.2.2.1, h.1, ?_⟩, fun h => ⟨h.2.1, fun j x _ hx => ?_, h.1, fun i x y hx hy hc => ?_⟩⟩⟩
  · have hn : ∀ (i j : Nat) (x y : S23), i < j → l[i]? = some x → l[j]? = some y → ¬ (x.f1 = y.f1 ∧ x.f2 = y.f2) := by
      rintro i j x y hij hx hy ⟨e1, e2⟩
      have := h.2.1 j y (Nat.zero_le _) hy
      rw [List.any_eq_false] at this
      refine this x ?_ ?_
      · refine List.mem_of_getElem? (i := i) ?_
        rw [List.getElem?_take, if_pos hij]
        exact hx
      · simp [has, e1, e2]
    have hadj : ∀ (i : Nat) (x y : S23), l[i]? = some x → l[i + 1]? = some y → lt x y := by
      intro i x y hx hy
      have h3 := h.2.2.2 i x y hx hy
      have h4 := hn i (i + 1) x y (by omega) hx hy
      unfold lt at *
      omega
    have hall : ∀ (d i : Nat) (x y : S23), l[i]? = some x → l[i + 1 + d]? = some y → lt x y := by
      intro d
      induction d with
      | zero => intro i x y hx hy; exact hadj i x y hx hy
      | succ d ih =>
        intro i x y hx hy
        have hlt := (List.getElem?_eq_some_iff.1 hy).1
        have hz : l[i + 1 + d]? = some l[i + 1 + d] := List.getElem?_eq_getElem (by omega)
        exact lt_trans (ih i x _ hx hz) (hadj (i + 1 + d) _ y hz hy)
    refine pw_of_get fun i j x y hij hx hy => ⟨hall (j - i - 1) i x y hx (by rw [show i + 1 + (j - i - 1) = j by omega]; exact hy), hn i j x y hij hx hy⟩
  · rw [List.any_eq_false]
    intro y hy
    obtain ⟨i, hi⟩ := List.getElem?_of_mem hy
    rw [List.getElem?_take] at hi
    split at hi
    · rename_i hij
      have := (pw_get h.2.2 hij hi hx).2
      simp only [has, Bool.and_eq_true, beq_iff_eq]
      exact this
    · cases hi
  · have := (pw_get h.2.2 (Nat.lt_succ_self i) hx hy).1
    unfold lt at *
    omega

theorem parted_tells (k : Nat) (a b : Int) (l : List S23) (hk : l.length < k) (hs : l.length < 1000000) : timer_parted_Timer.f k l a b = some (l.filter (has a b), l.filter (fun x => !has a b x)) := by
  have key : ∀ (xs ys zs : List S23), xs.length + ys.length + zs.length < 2000000 → timer_parted_Timer.r1 k a b l xs ys zs = some (ys ++ xs.filter (has a b), zs ++ xs.filter (fun x => !has a b x)) := by
    intro xs
    induction xs with
    | nil => intro ys zs _; simp [timer_parted_Timer.r1]
    | cons x xs ih =>
      intro ys zs h
      simp only [List.length_cons] at h
      rw [timer_parted_Timer.r1, of_tells, Option.bind_some]
      cases hx : has a b x with
      | true =>
        rw [if_pos rfl, if_pos (by simp; omega), ih _ _ (by simp; omega)]
        simp [hx]
      | false =>
        rw [if_neg (by simp), if_pos (by simp; omega), ih _ _ (by simp; omega)]
        simp [hx]
  unfold timer_parted_Timer.f
  have := timer_parted_Timer.r1_eq k a b l (by omega) k 0 [] [] (by omega) (by omega)
  rw [show ((0 : Nat) : Int) = 0 from rfl, List.drop_zero] at this
  rw [this, key l [] [] (by simp; omega)]
  rfl
def cl (a b : Int) (l : List S23) : List S23 := l.filter (fun x => !has a b x)
theorem cl_len (a b : Int) (l : List S23) : (cl a b l).length ≤ l.length := List.length_filter_le _ _
theorem Rt_sub {l l' : List S23} (h : Rt l) (hs : l'.Sublist l) : Rt l' := ⟨Nat.le_trans hs.length_le h.1, fun x hx => h.2.1 x (hs.subset hx), h.2.2.sublist hs⟩
theorem Rt_cl {l : List S23} (a b : Int) (h : Rt l) : Rt (cl a b l) := Rt_sub h List.filter_sublist
/-- A timer put in its place. -/
def ins (x : S23) (l : List S23) : List S23 := l.takeWhile (fun y => decide (lt y x)) ++ [x] ++ l.dropWhile (fun y => decide (lt y x))
theorem downs {l : List S23} (h : Rt l) (x : S23) : Downs (fun y => decide (lt y x)) l := fun i j a b hij ha hb hp => by
  have := (pw_get h.2.2 hij ha hb).1
  simp only [decide_eq_true_eq] at hp ⊢
  exact lt_trans this hp
theorem bsearch_tells (k : Nat) (hk : 4 ≤ k) (x : S23) (l : List S23) (h : Rt l) (hk2 : l.length < k) : ∃ b, slices_BinarySearchFunc_api_Timer_api_Timer_api_Timer.f k l x.f0 x.f1 x.f2 = some ((((l.takeWhile (fun y => decide (lt y x))).length : Nat) : Int), b) := by
  have hd := downs h x
  have hle := tw_len_le (fun y => decide (lt y x)) l
  have hl := h.1
  generalize hn : (l.takeWhile (fun y => decide (lt y x))).length = n at hle
  have key : ∀ (m i j : Nat), i ≤ n → n ≤ j → j ≤ l.length → j - i < m → ∃ b, slices_BinarySearchFunc_api_Timer_api_Timer_api_Timer.l1 k x.f0 x.f1 x.f2 l m (i : Int) (j : Int) = some ((n : Int), b) := by
    intro m
    induction m with
    | zero => intro i j _ _ _ h; omega
    | succ m ih =>
      intro i j h1 h2 h3 h4
      rw [slices_BinarySearchFunc_api_Timer_api_Timer_api_Timer.l1]
      by_cases hij : i < j
      · have hm : (i + j) / 2 < l.length := by omega
        rw [if_pos (by omega), mid_is (by omega) (by omega), if_pos (by omega), Int.toNat_natCast, List.getElem?_eq_getElem hm, Option.bind_some, cmp_tells k hk, Option.bind_some]
        by_cases hc : cmp l[(i + j) / 2] x < 0
        · rw [if_pos hc, show wrap64 ((((i + j) / 2 : Nat) : Int) + 1) = (((i + j) / 2 + 1 : Nat) : Int) by unfold wrap64; omega]
          refine ih _ _ ?_ h2 h3 (by omega)
          apply Nat.lt_of_not_le
          intro hge
          have := tw_ge hd (List.getElem?_eq_getElem hm) (by omega)
          rw [decide_eq_false_iff_not] at this
          exact this ((cmp_is _ _).1.1 hc)
        · rw [if_neg hc]
          refine ih _ _ h1 ?_ (by omega) (by omega)
          apply Nat.le_of_not_lt
          intro hlt
          have := tw_lt (fun y => decide (lt y x)) l _ _ (List.getElem?_eq_getElem hm) (by omega)
          exact hc ((cmp_is _ _).1.2 (of_decide_eq_true this))
      · obtain rfl : i = n := by omega
        rw [if_neg (by omega)]
        by_cases hi : i < l.length
        · rw [if_pos (by omega), if_pos (by omega), Int.toNat_natCast, List.getElem?_eq_getElem hi, Option.bind_some, cmp_tells k hk, Option.bind_some]
          exact ⟨_, rfl⟩
        · rw [if_neg (by omega)]
          exact ⟨_, rfl⟩
  unfold slices_BinarySearchFunc_api_Timer_api_Timer_api_Timer.f
  exact key k 0 l.length (Nat.zero_le _) hle (Nat.le_refl _) (by omega)
theorem insert_tells (x : S23) (l : List S23) (h : l.length ≤ 1000) : slices_Insert_api_Timer_api_Timer.f l ((l.takeWhile (fun y => decide (lt y x))).length : Nat) [x] = some (ins x l) := by
  have hle := tw_len_le (fun y => decide (lt y x)) l
  unfold slices_Insert_api_Timer_api_Timer.f
  rw [if_pos ⟨by omega, by omega, by simp; omega⟩, Int.toNat_natCast, take_tw, drop_tw]
  rfl
/-- What setting a timer makes. -/
theorem set_tells (k : Nat) (hk : 100 ≤ k) (x : S23) (l : List S23) (h : Rt l) : timer_Set.f k l x.f0 x.f1 x.f2 = some (if may x = true then (if (cl x.f1 x.f2 l).length = 96 then ([], 7) else (ins x (cl x.f1 x.f2 l), 0)) else ([], 1)) := by
  have hl := h.1
  obtain ⟨b, h1, h2⟩ := right_tells k hk l (by omega)
  obtain rfl : b = true := h2.2 h
  unfold timer_Set.f
  rw [h1, Option.bind_some, if_pos rfl, may_tells, Option.bind_some]
  cases hm : may x with
  | false => rfl
  | true =>
    rw [if_pos rfl, if_pos rfl, timer_of.f, Option.bind_some]
    simp only [parted_tells k x.f1 x.f2 l (by omega) (by omega), Option.bind_some]
    have hc := cl_len x.f1 x.f2 l
    have hr := Rt_cl x.f1 x.f2 h
    unfold cl at *
    by_cases h96 : (l.filter (fun y => !has x.f1 x.f2 y)).length = 96
    · rw [if_pos (by omega), if_pos h96]
    · rw [if_neg (by omega), if_neg h96]
      obtain ⟨b, hb⟩ := bsearch_tells k (by omega) x _ hr (by omega)
      rw [hb]
      simp only [Option.bind_some]
      rw [insert_tells x _ (by omega)]
      rfl
theorem set_bad (k : Nat) (hk : 100 ≤ k) (x : S23) (l : List S23) (hl : l.length ≤ 99) (h : ¬ Rt l) : timer_Set.f k l x.f0 x.f1 x.f2 = some ([], 1) := by
  obtain ⟨b, h1, h2⟩ := right_tells k hk l hl
  unfold timer_Set.f
  rw [h1, Option.bind_some, if_neg (fun e => h (h2.1 e))]
theorem clear_tells (k : Nat) (hk : 100 ≤ k) (a b : Int) (l : List S23) (h : Rt l) : timer_Clear.f k l a b = some (cl a b l, 0) := by
  have hl := h.1
  obtain ⟨c, h1, h2⟩ := right_tells k hk l (by omega)
  obtain rfl : c = true := h2.2 h
  unfold timer_Clear.f
  rw [h1, Option.bind_some, if_pos rfl, timer_of.f, Option.bind_some]
  simp only [parted_tells k a b l (by omega) (by omega), Option.bind_some]
  rfl
theorem clear_bad (k : Nat) (hk : 100 ≤ k) (a b : Int) (l : List S23) (hl : l.length ≤ 99) (h : ¬ Rt l) : timer_Clear.f k l a b = some ([], 1) := by
  obtain ⟨c, h1, h2⟩ := right_tells k hk l hl
  unfold timer_Clear.f
  rw [h1, Option.bind_some, if_neg (fun e => h (h2.1 e))]
theorem same_tells (k : Nat) (a b : List S23) (hk : a.length < k) (hs : a.length < 1000000) : tarryref10_Same.f k a b = some (decide (a = b)) := by
  unfold tarryref10_Same.f
  by_cases hlen : a.length = b.length
  · rw [if_pos (by omega)]
    have key : ∀ (xs : List S23) (i : Nat), a.drop i = xs → tarryref10_Same.r1 k a b xs i = some (decide (xs = b.drop i)) := by
      intro xs
      induction xs with
      | nil =>
        intro i hi
        have : a.length ≤ i := by have := congrArg List.length hi; simp at this; omega
        rw [tarryref10_Same.r1, List.drop_of_length_le (by omega)]
        rfl
      | cons x xs ih =>
        intro i hi
        have hli : i < a.length := by have := congrArg List.length hi; simp at this; omega
        have hd : a.drop (i + 1) = xs := by simpa using congrArg List.tail hi
        rw [tarryref10_Same.r1, Int.toNat_natCast, List.getElem?_eq_getElem (by omega), Option.bind_some, List.drop_eq_getElem_cons (by omega : i < b.length), ih (i + 1) hd]
        by_cases hx : x = b[i]
        · rw [if_pos (by rw [hx]; simp)]
          congr 1
          rw [decide_eq_decide, hx]
          exact ⟨fun e => by rw [e], fun e => (List.cons.inj e).2⟩
        · rw [if_neg]
          · rw [decide_eq_false (fun e => hx (List.cons.inj e).1)]
          · simp only [Bool.and_eq_true, beq_iff_eq]
            exact fun h => hx (eq_of _ _ h.1 h.2.1 h.2.2)
    have := tarryref10_Same.r1_eq k a b (by omega) k 0 (by omega) (by omega)
    rw [show ((0 : Nat) : Int) = 0 from rfl, List.drop_zero] at this
    rw [this, key a 0 rfl, List.drop_zero]
  · rw [if_neg (by omega), decide_eq_false (fun e => hlen (by rw [e]))]

theorem few_tells (l : List S23) : tarrylaw10_few.f l = some (l.take 98) := by
  have e : mn (l.length : Int) 98 = ((min l.length 98 : Nat) : Int) := by unfold mn; split <;> omega
  unfold tarrylaw10_few.f
  rw [e, if_pos (by omega), if_pos (by omega), Int.toNat_natCast, take_drop0]
  congr 1
  rcases Nat.le_total l.length 98 with h | h
  · rw [Nat.min_eq_left h, List.take_length, List.take_of_length_le h]
  · rw [Nat.min_eq_right h]
theorem alive_tells : tarrylaw10_alive.f 200 = some true := by decide +kernel
theorem few_le (l : List S23) : (l.take 98).length ≤ 99 := by rw [List.length_take]; omega
theorem mem_ins {x y : S23} {l : List S23} : y ∈ ins x l ↔ y = x ∨ y ∈ l := by
  unfold ins
  rw [List.mem_append, List.mem_append, List.mem_singleton, ← mem_tw_dw (fun y => decide (lt y x)) l y]
  grind
theorem mem_cl {a b : Int} {y : S23} {l : List S23} : y ∈ cl a b l ↔ y ∈ l ∧ ¬ (y.f1 = a ∧ y.f2 = b) := by
  unfold cl has
  rw [List.mem_filter]
  grind
theorem has_not {a b : Int} {y : S23} : (!has a b y) = true ↔ ¬ (y.f1 = a ∧ y.f2 = b) := by unfold has; grind
theorem ins_len (x : S23) (l : List S23) : (ins x l).length = l.length + 1 := by
  have h5 := tw_len_le (fun y => decide (lt y x)) l
  unfold ins
  rw [← drop_tw]
  simp only [List.length_append, List.length_drop, List.length_cons, List.length_nil]
  omega
def Up (l : List S23) : Prop := l.Pairwise (fun y x => lt y x ∧ ¬ (y.f1 = x.f1 ∧ y.f2 = x.f2))
theorem Rt_ins {x : S23} {l : List S23} (h : Rt l) (hm : may x = true) (hl : l.length ≤ 95) (hn : ∀ y ∈ l, ¬ (y.f1 = x.f1 ∧ y.f2 = x.f2)) : Rt (ins x l) := by
  refine ⟨by rw [ins_len]; omega, fun y hy => ?_, ?_⟩
  · rcases mem_ins.1 hy with rfl | hy
    · exact hm
    · exact h.2.1 y hy
  have h1 : ∀ y ∈ l.takeWhile (fun y => decide (lt y x)), lt y x ∧ y ∈ l := fun y hy => ⟨of_decide_eq_true (mem_tw (p := fun y => decide (lt y x)) hy), (mem_tw_dw (fun y => decide (lt y x)) l y).1 (.inl hy)⟩
  have h2 : ∀ y ∈ l.dropWhile (fun y => decide (lt y x)), lt x y ∧ y ∈ l := fun y hy => by
    have hy2 := (mem_tw_dw (fun y => decide (lt y x)) l y).1 (.inr hy)
    have h3 := mem_dw (downs h x) hy
    rw [decide_eq_false_iff_not] at h3
    have := hn y hy2
    refine ⟨?_, hy2⟩
    unfold lt at *
    omega
  have hsplit : (l.takeWhile (fun y => decide (lt y x)) ++ l.dropWhile (fun y => decide (lt y x))).Pairwise (fun y x => lt y x ∧ ¬ (y.f1 = x.f1 ∧ y.f2 = x.f2)) := by rw [List.takeWhile_append_dropWhile]; exact h.2.2
  rw [List.pairwise_append] at hsplit
  unfold ins
  rw [List.append_assoc, List.pairwise_append]
  refine ⟨hsplit.1, ?_, fun a ha b hb => ?_⟩
  · rw [List.singleton_append, List.pairwise_cons]
    exact ⟨fun y hy => ⟨(h2 y hy).1, fun e => hn y (h2 y hy).2 ⟨e.1.symm, e.2.symm⟩⟩, hsplit.2.1⟩
  · rcases List.mem_cons.1 hb with rfl | hb
    · exact ⟨(h1 a ha).1, hn a (h1 a ha).2⟩
    · exact hsplit.2.2 a ha b hb
theorem cl_big {a b : Int} {l : List S23} (h : Rt l) : l.length ≤ (cl a b l).length + 1 := by
  have h1 := filter_split (has a b) l
  have h2 : (l.filter (has a b)).length ≤ 1 := by
    have hp := h.2.2.sublist (List.filter_sublist (p := has a b))
    have hm : ∀ y ∈ l.filter (has a b), y.f1 = a ∧ y.f2 = b := fun y hy => by have := (List.mem_filter.1 hy).2; simpa [has] using this
    generalize l.filter (has a b) = r at hp hm
    match r, hp, hm with
    | [], _, _ => simp
    | [x], _, _ => simp
    | x :: y :: r, hp, hm =>
      have h1 := hm x (by simp)
      have h2 := hm y (by simp)
      have h3 := (List.pairwise_cons.1 hp).1 y (by simp)
      exact absurd ⟨h1.1.trans h2.1.symm, h1.2.trans h2.2.symm⟩ h3.2
  unfold cl
  omega
theorem rt_eq {l l' : List S23} (h : Rt l) (h' : Rt l') (hm : ∀ x, x ∈ l ↔ x ∈ l') : l = l' :=
  eq_of_rise (R := lt) (fun a b h1 h2 => by unfold lt at *; omega) l l' (h.2.2.imp fun q => q.1) (h'.2.2.imp fun q => q.1) hm
theorem cl_no {a b : Int} {l : List S23} : ∀ y ∈ cl a b l, ¬ (y.f1 = a ∧ y.f2 = b) := fun y hy => (mem_cl.1 hy).2
theorem TimerOrders : tarrylaw10_TimerOrders.Pure := by
  intro l0 x0 x1 x2 y0 y1 y2 _ _ _ _ _ _ _
  refine ⟨200, ?_⟩
  unfold tarrylaw10_TimerOrders.f
  rw [few_tells, Option.bind_some]
  have hl := few_le l0
  generalize l0.take 98 = l at hl
  obtain ⟨a, rfl, rfl, rfl⟩ : ∃ x : S23, x0 = x.f0 ∧ x1 = x.f1 ∧ x2 = x.f2 := ⟨⟨x0, x1, x2⟩, rfl, rfl, rfl⟩
  obtain ⟨b, rfl, rfl, rfl⟩ : ∃ x : S23, y0 = x.f0 ∧ y1 = x.f1 ∧ y2 = x.f2 := ⟨⟨y0, y1, y2⟩, rfl, rfl, rfl⟩
  by_cases hr : Rt l
  case neg =>
    rw [set_bad 200 (by omega) a l hl hr]
    simp [alive_tells]
  rw [set_tells 200 (by omega) a l hr]
  cases hma : may a with
  | false => simp [alive_tells]
  | true =>
  rw [if_pos rfl]
  by_cases h96 : (cl a.f1 a.f2 l).length = 96
  · rw [if_pos h96]
    simp [alive_tells]
  rw [if_neg h96]
  have hl96 := hr.1
  have hcl := cl_len a.f1 a.f2 l
  have hrc := Rt_cl a.f1 a.f2 hr
  have hrx : Rt (ins a (cl a.f1 a.f2 l)) := Rt_ins hrc hma (by omega) cl_no
  have hxl := ins_len a (cl a.f1 a.f2 l)
  obtain ⟨x, hx⟩ : ∃ x, x = ins a (cl a.f1 a.f2 l) := ⟨_, rfl⟩
  rw [← hx] at hrx hxl ⊢
  have hcc : cl a.f1 a.f2 x = cl a.f1 a.f2 l := by
    refine rt_eq (Rt_cl _ _ hrx) hrc fun y => ?_
    rw [mem_cl, hx, mem_ins, mem_cl]
    constructor
    · rintro ⟨rfl | h, h2⟩
      · exact absurd ⟨rfl, rfl⟩ h2
      · exact h
    · exact fun h => ⟨.inr h, h.2⟩
  obtain ⟨b1, h1, h2⟩ := right_tells 200 (by omega) x (by omega)
  obtain rfl : b1 = true := h2.2 hrx
  obtain ⟨b3, h3, h4⟩ := right_tells 200 (by omega) (cl a.f1 a.f2 l) (by omega)
  obtain rfl : b3 = true := h4.2 hrc
  simp only [Option.bind_some, if_true, clear_tells 200 (by omega) a.f1 a.f2 x hrx, clear_tells 200 (by omega) a.f1 a.f2 l hr, hcc, same_tells 200 (cl a.f1 a.f2 l) (cl a.f1 a.f2 l) (by omega) (by omega), decide_true, h1, h3, alive_tells]
  rw [set_tells 200 (by omega) b x hrx]
  cases hmb : may b with
  | false => simp
  | true =>
  rw [if_pos rfl]
  by_cases g96 : (cl b.f1 b.f2 x).length = 96
  · rw [if_pos g96]; simp
  rw [if_neg g96]
  have hbx := Rt_cl b.f1 b.f2 hrx
  have hbl := cl_len b.f1 b.f2 x
  have hbig := cl_big (a := a.f1) (b := a.f2) hr
  have hry : Rt (ins b (cl b.f1 b.f2 x)) := Rt_ins hbx hmb (by omega) cl_no
  have hyl := ins_len b (cl b.f1 b.f2 x)
  simp only [Option.bind_some, if_true]
  have hdl : (cl b.f1 b.f2 l).length ≠ 96 := by
    intro e
    have h5 := cl_len b.f1 b.f2 l
    have h6 : l = cl b.f1 b.f2 l := (List.Sublist.eq_of_length (l₁ := cl b.f1 b.f2 l) List.filter_sublist (by omega)).symm
    have h7 : l.length = 96 := by omega
    have hall : ∀ y ∈ l, ¬ (y.f1 = b.f1 ∧ y.f2 = b.f2) := fun y hy => (mem_cl.1 (h6 ▸ hy)).2
    by_cases hk : a.f1 = b.f1 ∧ a.f2 = b.f2
    · have : cl a.f1 a.f2 l = cl b.f1 b.f2 l := by rw [hk.1, hk.2]
      rw [this, e] at h96
      exact h96 rfl
    · have : cl b.f1 b.f2 x = x := by
        unfold cl
        rw [List.filter_eq_self]
        intro y hy
        rw [hx] at hy
        rcases mem_ins.1 hy with rfl | hy
        · exact has_not.2 hk
        · exact has_not.2 (hall y (mem_cl.1 hy).1)
      rw [this] at g96
      omega
  have hrz : Rt (ins b (cl b.f1 b.f2 l)) := Rt_ins (Rt_cl _ _ hr) hmb (by have := cl_len b.f1 b.f2 l; omega) cl_no
  have hzl := ins_len b (cl b.f1 b.f2 l)
  have hsz : tarrylaw10_TimerOrders.f = tarrylaw10_TimerOrders.f := rfl
  have hz : timer_Set.f 200 l b.f0 b.f1 b.f2 = some (ins b (cl b.f1 b.f2 l), 0) := by rw [set_tells 200 (by omega) b l hr, hmb, if_pos rfl, if_neg hdl]
  have hsame : ∀ (p q : List S23), p.length ≤ 150 → p = q → tarryref10_Same.f 200 p q = some true := by
    rintro p q hp rfl
    rw [same_tells 200 p p (by omega) (by omega)]
    simp
  by_cases hk : a.f1 = b.f1 ∧ a.f2 = b.f2
  · have e : ins b (cl b.f1 b.f2 x) = ins b (cl b.f1 b.f2 l) := by rw [← hk.1, ← hk.2, hcc]
    simp [hk.1, hk.2, hz, hsame _ _ (by omega) e]
  · have hw : timer_Set.f 200 (ins b (cl b.f1 b.f2 l)) a.f0 a.f1 a.f2 = some (ins a (cl a.f1 a.f2 (ins b (cl b.f1 b.f2 l))), 0) ∧ ins b (cl b.f1 b.f2 x) = ins a (cl a.f1 a.f2 (ins b (cl b.f1 b.f2 l))) := by
      have hcz := cl_len a.f1 a.f2 (ins b (cl b.f1 b.f2 l))
      have hkb : ¬ (b.f1 = a.f1 ∧ b.f2 = a.f2) := fun e => hk ⟨e.1.symm, e.2.symm⟩
      have e2 : cl a.f1 a.f2 (cl b.f1 b.f2 l) = cl b.f1 b.f2 (cl a.f1 a.f2 l) := rt_eq (Rt_cl _ _ (Rt_cl _ _ hr)) (Rt_cl _ _ (Rt_cl _ _ hr)) fun y => by simp only [mem_cl]; grind
      have hlc : (cl b.f1 b.f2 (cl a.f1 a.f2 l)).length ≤ (cl b.f1 b.f2 x).length - 1 := by
        have hnn : Rt (ins a (cl b.f1 b.f2 (cl a.f1 a.f2 l))) := Rt_ins (Rt_cl _ _ hrc) hma (by have := cl_len b.f1 b.f2 (cl a.f1 a.f2 l); omega) fun y hy => (mem_cl.1 (mem_cl.1 hy).1).2
        have e3 : cl b.f1 b.f2 x = ins a (cl b.f1 b.f2 (cl a.f1 a.f2 l)) := rt_eq hbx hnn fun y => by
          simp only [mem_cl, hx, mem_ins]
          grind
        rw [e3, ins_len]
        omega
      have hrzc := Rt_cl a.f1 a.f2 hrz
      have e4 : cl a.f1 a.f2 (ins b (cl b.f1 b.f2 l)) = ins b (cl a.f1 a.f2 (cl b.f1 b.f2 l)) := rt_eq hrzc (Rt_ins (Rt_cl _ _ (Rt_cl _ _ hr)) hmb (by rw [e2]; omega) fun y hy => (mem_cl.1 (mem_cl.1 hy).1).2) fun y => by
        simp only [mem_cl, mem_ins]
        grind
      have hlz : (cl a.f1 a.f2 (ins b (cl b.f1 b.f2 l))).length ≤ 95 := by
        rw [e4, ins_len, e2]
        omega
      refine ⟨by rw [set_tells 200 (by omega) a _ hrz, hma, if_pos rfl, if_neg (by omega)], rt_eq hry (Rt_ins hrzc hma hlz cl_no) fun y => ?_⟩
      simp only [mem_ins, mem_cl, hx]
      grind
    have hs := hsame _ _ (by omega) hw.2
    rw [hz]
    simp only [Option.bind_some]
    by_cases hk1 : a.f1 = b.f1
    · rw [if_pos hk1, if_neg (fun e => hk ⟨hk1, e⟩)]
      simp [hw.1, hs]
    · rw [if_neg hk1]
      simp [hw.1, hs]
end Go.Proofs.Ytmcfgahjchkgaaa.Pure
