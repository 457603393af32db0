/- OutboxGoes: which outboxes may be, and what putting, doing, finding and telling makes of any, is as the document says, or refused; no further condition. -/
import Derived.Test.YtapdeoioenblfaaROutboxGoes
namespace Go.Proofs.Ytapdeoioenblfaa.Pure
open Go Go.RowKit Go.Proofs.Ytapdeoioenblfaa.POutboxGoes Go.Proofs.YtapdeoioenblfaaV 
set_option linter.unusedSimpArgs false
set_option linter.unusedVariables false
theorem take_drop0 {α : Type} (l : List α) (i : Nat) : (l.take i).drop 0 = l.take i := rfl
theorem w64n {n : Int} (h1 : -9000000000000000000 ≤ n) (h2 : n ≤ 9000000000000000000) : wrap64 n = n := by unfold wrap64; omega
/-- A binary search's middle. -/
theorem mid_is {i j : Nat} (hi : i ≤ 1000000) (hj : j ≤ 1000000) : wrap64 ((IntKind.u64.wrap (wrap64 ((i : Int) + (j : Int)))).fdiv (2 ^ min (1 : Int).toNat IntKind.u64.bits)) = (((i + j) / 2 : Nat) : Int) := by
  have e1 : wrap64 ((i : Int) + (j : Int)) = ((i + j : Nat) : Int) := by unfold wrap64; omega
  have e2 : IntKind.u64.wrap ((i + j : Nat) : Int) = ((i + j : Nat) : Int) := by
    have h : IntKind.u64.wrap ((i + j : Nat) : Int) = ((i + j : Nat) : Int) % 18446744073709551616 := rfl
    rw [h]
    omega
  have e3 : (2 : Int) ^ min (1 : Int).toNat IntKind.u64.bits = 2 := by decide
  rw [e1, e2, e3, Int.fdiv_eq_ediv_of_nonneg _ (by decide)]
  unfold wrap64
  omega
/-- The things ahead of the first one that is not so. -/
theorem tw_len_le {α : Type} (p : α → Bool) (l : List α) : (l.takeWhile p).length ≤ l.length := by
  induction l with
  | nil => simp
  | cons x xs ih => rw [List.takeWhile_cons]; split <;> simp <;> omega
theorem tw_lt {α : Type} (p : α → Bool) : ∀ (l : List α) (i : Nat) (x : α), l[i]? = some x → i < (l.takeWhile p).length → p x = true
  | [], i, x, h, _ => by simp at h
  | y :: l, 0, x, h, hi => by
    simp only [List.getElem?_cons_zero, Option.some.injEq] at h
    subst h
    rw [List.takeWhile_cons] at hi
    by_cases hp : p y = true
    · exact hp
    · rw [if_neg hp] at hi; simp at hi
  | y :: l, i + 1, x, h, hi => by
    simp only [List.getElem?_cons_succ] at h
    rw [List.takeWhile_cons] at hi
    split at hi
    · exact tw_lt p l i x h (by simpa using hi)
    · simp at hi
theorem tw_at {α : Type} (p : α → Bool) : ∀ (l : List α) (x : α), l[(l.takeWhile p).length]? = some x → p x = false
  | [], x, h => by simp at h
  | y :: l, x, h => by
    rw [List.takeWhile_cons] at h
    by_cases hp : p y = true
    · rw [if_pos hp] at h
      simp only [List.length_cons, List.getElem?_cons_succ] at h
      exact tw_at p l x h
    · rw [if_neg hp] at h
      simp only [List.length_nil, List.getElem?_cons_zero, Option.some.injEq] at h
      subst h
      simpa using hp
/-- Where what is so stands ahead of what is not. -/
def Downs {α : Type} (p : α → Bool) (l : List α) : Prop := ∀ (i j : Nat) (x y : α), i < j → l[i]? = some x → l[j]? = some y → p y = true → p x = true
theorem tw_ge {α : Type} {p : α → Bool} {l : List α} (h : Downs p l) {i : Nat} {x : α} (hx : l[i]? = some x) (hi : (l.takeWhile p).length ≤ i) : p x = false := by
  have hl := (List.getElem?_eq_some_iff.1 hx).1
  obtain ⟨y, hn⟩ : ∃ y, l[(l.takeWhile p).length]? = some y := ⟨_, List.getElem?_eq_getElem (by omega)⟩
  have h0 := tw_at p l _ hn
  rcases Nat.lt_or_eq_of_le hi with h1 | h1
  · cases hp : p x with
    | false => rfl
    | true => rw [h _ _ _ _ h1 hn hx hp] at h0; cases h0
  · rw [h1, hx] at hn
    obtain rfl := Option.some.inj hn
    exact h0
theorem take_tw {α : Type} (p : α → Bool) (l : List α) : l.take (l.takeWhile p).length = l.takeWhile p := by
  induction l with
  | nil => rfl
  | cons x xs ih => rw [List.takeWhile_cons]; split <;> simp [ih]
theorem drop_tw {α : Type} (p : α → Bool) (l : List α) : l.drop (l.takeWhile p).length = l.dropWhile p := by
  induction l with
  | nil => rfl
  | cons x xs ih => rw [List.takeWhile_cons, List.dropWhile_cons]; split <;> simp [ih]
theorem pw_get {α : Type} {R : α → α → Prop} {l : List α} (h : l.Pairwise R) {i j : Nat} {x y : α} (hij : i < j) (hx : l[i]? = some x) (hy : l[j]? = some y) : R x y := by
  obtain ⟨h1, rfl⟩ := List.getElem?_eq_some_iff.1 hx
  obtain ⟨h2, rfl⟩ := List.getElem?_eq_some_iff.1 hy
  exact List.pairwise_iff_getElem.1 h i j h1 h2 hij
theorem pw_of_get {α : Type} {R : α → α → Prop} {l : List α} (h : ∀ (i j : Nat) (x y : α), i < j → l[i]? = some x → l[j]? = some y → R x y) : l.Pairwise R :=
  List.pairwise_iff_getElem.2 fun i j h1 h2 hij => h i j _ _ hij (List.getElem?_eq_getElem h1) (List.getElem?_eq_getElem h2)
theorem drop_cons_is {α : Type} {l : List α} {i : Nat} {x : α} {xs : List α} (h : l.drop i = x :: xs) : i < l.length ∧ l[i]? = some x ∧ l.drop (i + 1) = xs := by
  have h1 : i < l.length := by have := congrArg List.length h; simp at this; omega
  rw [List.drop_eq_getElem_cons h1] at h
  obtain ⟨h2, h3⟩ := List.cons.inj h
  exact ⟨h1, by rw [List.getElem?_eq_getElem h1, h2], h3⟩
theorem drop_nil_is {α : Type} {l : List α} {i : Nat} (h : l.drop i = []) : l.length ≤ i := by have := congrArg List.length h; simp at this; omega
theorem filter_split {α : Type} (p : α → Bool) (l : List α) : (l.filter p).length + (l.filter (fun x => !p x)).length = l.length := by
  induction l with
  | nil => rfl
  | cons x xs ih => by_cases h : p x = true <;> simp [List.filter_cons, h] <;> omega
theorem mem_tw_dw {α : Type} (p : α → Bool) (l : List α) (y : α) : (y ∈ l.takeWhile p ∨ y ∈ l.dropWhile p) ↔ y ∈ l := by
  rw [← List.mem_append, List.takeWhile_append_dropWhile]
theorem mem_tw {α : Type} {p : α → Bool} {l : List α} {y : α} (h : y ∈ l.takeWhile p) : p y = true := by
  obtain ⟨i, hi⟩ := List.getElem?_of_mem h
  have hlt := (List.getElem?_eq_some_iff.1 hi).1
  rw [← take_tw, List.getElem?_take, if_pos hlt] at hi
  exact tw_lt p l i y hi hlt
theorem mem_dw {α : Type} {p : α → Bool} {l : List α} (hd : Downs p l) {y : α} (h : y ∈ l.dropWhile p) : p y = false := by
  obtain ⟨i, hi⟩ := List.getElem?_of_mem h
  rw [← drop_tw, List.getElem?_drop] at hi
  exact tw_ge hd hi (by omega)
/-- Two rows that rise, of the same things, are the same row. -/
theorem eq_of_rise {α : Type} {R : α → α → Prop} (irr : ∀ a b, R a b → ¬ R b a) : ∀ (l l' : List α), l.Pairwise R → l'.Pairwise R → (∀ x, x ∈ l ↔ x ∈ l') → l = l'
  | [], [], _, _, _ => rfl
  | [], b :: l', _, _, h => by have := (h b).2 (by simp); cases this
  | a :: l, [], _, _, h => by have := (h a).1 (by simp); cases this
  | a :: l, b :: l', h1, h2, h => by
    rw [List.pairwise_cons] at h1 h2
    have hab : a = b := by
      rcases List.mem_cons.1 ((h a).1 (by simp)) with e | e
      · exact e
      rcases List.mem_cons.1 ((h b).2 (by simp)) with e2 | e2
      · exact e2.symm
      exact absurd (h1.1 b e2) (irr _ _ (h2.1 a e))
    subst hab
    have hna : ∀ x, R x x → False := fun x hx => irr x x hx hx
    rw [eq_of_rise irr l l' h1.2 h2.2 fun x => ⟨fun hx => ?_, fun hx => ?_⟩]
    · rcases List.mem_cons.1 ((h x).1 (by simp [hx])) with e | e
      · subst e; exact absurd (h1.1 _ hx) (hna _)
      · exact e
    · rcases List.mem_cons.1 ((h x).2 (by simp [hx])) with e | e
      · subst e; exact absurd (h2.1 _ hx) (hna _)
      · exact e
theorem filter_tw {α : Type} {p : α → Bool} : ∀ {l : List α}, Downs p l → l.filter p = l.takeWhile p
  | [], _ => rfl
  | x :: xs, h => by
    by_cases hx : p x = true
    · rw [List.filter_cons, if_pos hx, List.takeWhile_cons, if_pos hx, filter_tw (l := xs) fun i j a b hij ha hb hp => h (i + 1) (j + 1) a b (by omega) (by simpa using ha) (by simpa using hb) hp]
    · rw [List.takeWhile_cons, if_neg hx, List.filter_eq_nil_iff]
      intro y hy hp
      obtain ⟨j, hj⟩ := List.getElem?_of_mem hy
      cases j with
      | zero => simp at hj; subst hj; exact hx hp
      | succ j => exact hx (h 0 (j + 1) x y (by omega) rfl hj hp)
theorem tw_mono {α : Type} {p q : α → Bool} (h : ∀ x, p x = true → q x = true) (l : List α) : (l.takeWhile p).length ≤ (l.takeWhile q).length := by
  induction l with
  | nil => simp
  | cons x xs ih =>
    rw [List.takeWhile_cons, List.takeWhile_cons]
    by_cases hx : p x = true
    · rw [if_pos hx, if_pos (h x hx)]; simp; omega
    · rw [if_neg hx]; simp
theorem pw_of_adj {α : Type} {R : α → α → Prop} (tr : ∀ {a b c}, R a b → R b c → R a c) {l : List α} (h : ∀ (i : Nat) (x y : α), l[i]? = some x → l[i + 1]? = some y → R x y) : l.Pairwise R := by
  have hall : ∀ (d i : Nat) (x y : α), l[i]? = some x → l[i + 1 + d]? = some y → R x y := by
    intro d
    induction d with
    | zero => intro i x y hx hy; exact h i x y hx hy
    | succ d ih =>
      intro i x y hx hy
      have hlt := (List.getElem?_eq_some_iff.1 hy).1
      have hz : l[i + 1 + d]? = some l[i + 1 + d] := List.getElem?_eq_getElem (by omega)
      exact tr (ih i x _ hx hz) (h (i + 1 + d) _ y hz hy)
  exact pw_of_get fun i j x y hij hx hy => hall (j - i - 1) i x y hx (by rw [show i + 1 + (j - i - 1) = j by omega]; exact hy)
abbrev M : Int := 1099511627776
theorem number_tells (a : Int) : outbox_number.f a = some (decide (1 ≤ a ∧ a ≤ M)) := by
  unfold outbox_number.f M
  split
  · congr 1; rw [decide_eq_decide]; omega
  · congr 1; symm; apply decide_eq_false; omega
theorem kinds_tells (a : Int) : outbox_kinds.f a = some (decide (1 ≤ a ∧ a ≤ 3)) := by
  unfold outbox_kinds.f
  split
  · congr 1; rw [decide_eq_decide]; omega
  · congr 1; symm; apply decide_eq_false; omega
theorem time_tells (a : Int) : outbox_time.f a = some (decide (0 ≤ a ∧ a ≤ M)) := by
  unfold outbox_time.f
  rw [number_tells, Option.bind_some]
  split
  · rename_i h; subst h; rfl
  · congr 1; rw [decide_eq_decide]; omega
def has (a b : Int) (x : S33) : Bool := x.f1 == a && x.f2 == b
theorem of_tells (x : S33) (a b : Int) : outbox_of_1.f x.f0 x.f1 x.f2 x.f3 a b = some (has a b x) := by
  unfold outbox_of_1.f has
  split
  · rename_i h; simp [h]
  · rename_i h; simp [h]
def idxI (p : S33 → Bool) (l : List S33) : Int := match l.findIdx? p with | some i => i | none => -1
theorem idxI_none {p : S33 → Bool} {l : List S33} (h : l.any p = false) : idxI p l = -1 := by
  have h2 : l.findIdx? p = none := by
    rw [List.findIdx?_eq_none_iff]
    intro x hx
    cases hp : p x with
    | false => rfl
    | true =>
      have : l.any p = true := List.any_eq_true.2 ⟨x, hx, hp⟩
      rw [h] at this; cases this
  unfold idxI; rw [h2]
theorem idxI_some {p : S33 → Bool} {l : List S33} (h : l.any p = true) : ∃ (i : Nat) (x : S33), idxI p l = i ∧ l[i]? = some x ∧ p x = true ∧ l.find? p = some x := by
  have h1 : ∃ x ∈ l, p x = true := by simpa using h
  cases h2 : l.findIdx? p with
  | none =>
    rw [List.findIdx?_eq_none_iff] at h2
    obtain ⟨x, hx, hp⟩ := h1
    rw [h2 x hx] at hp; cases hp
  | some i =>
    rw [List.findIdx?_eq_some_iff_getElem] at h2
    obtain ⟨hi, hp, hn⟩ := h2
    have h3 : l.findIdx? p = some i := List.findIdx?_eq_some_iff_getElem.2 ⟨hi, hp, hn⟩
    refine ⟨i, l[i], by unfold idxI; rw [h3], List.getElem?_eq_getElem hi, hp, ?_⟩
    rw [List.find?_eq_some_iff_getElem]
    exact ⟨hp, i, hi, rfl, fun j hj => by simpa using hn j hj⟩
theorem idxF_tells (p : S33 → Bool) (k : Nat) (F : List S33 → Nat → Option Int) (h0 : ∀ i, F [] i = some (-1)) (h1 : ∀ x xs i, F (x :: xs) i = if p x = true then some (i : Int) else F xs (i + 1)) : ∀ (xs : List S33) (i : Nat), F xs i = some (match xs.findIdx? p with | some j => ((i + j : Nat) : Int) | none => -1)
  | [], i => by rw [h0]; rfl
  | x :: xs, i => by
    rw [h1, List.findIdx?_cons]
    cases hp : p x with
    | true => rfl
    | false =>
      simp only [Bool.false_eq_true, if_false]
      rw [idxF_tells p k F h0 h1 xs (i + 1)]
      cases xs.findIdx? p with
      | none => rfl
      | some j => show some (((i + 1 + j : Nat) : Int)) = some (((i + (j + 1) : Nat) : Int)); rw [show i + 1 + j = i + (j + 1) by omega]
theorem where_tells (k : Nat) (a b : Int) (l : List S33) (hk : l.length < k) (hs : l.length < 1000000) : outbox_where_Out.f k l a b = some (idxI (has a b) l) := by
  unfold outbox_where_Out.f slices_IndexFunc_api_Out_api_Out.f
  have := slices_IndexFunc_api_Out_api_Out.r1_eq k a b l (by omega) k 0 (by omega) (by omega)
  rw [show ((0 : Nat) : Int) = 0 from rfl, List.drop_zero] at this
  rw [this, idxF_tells (has a b) k (slices_IndexFunc_api_Out_api_Out.r1 k a b l) (fun i => rfl) (fun x xs i => by rw [slices_IndexFunc_api_Out_api_Out.r1, of_tells, Option.bind_some]), Option.bind_some]
  unfold idxI
  cases l.findIdx? (has a b) <;> simp
def hasK (a : Int) (x : S33) : Bool := x.f0 == a
theorem whereK_tells (k : Nat) (a : Int) (l : List S33) (hk : l.length < k) (hs : l.length < 1000000) : outbox_where_Out_s11.f k l a = some (idxI (hasK a) l) := by
  unfold outbox_where_Out_s11.f slices_IndexFunc_api_Out_api_Out_s11.f
  have := slices_IndexFunc_api_Out_api_Out_s11.r1_eq k a l (by omega) k 0 (by omega) (by omega)
  rw [show ((0 : Nat) : Int) = 0 from rfl, List.drop_zero] at this
  rw [this, idxF_tells (hasK a) k (slices_IndexFunc_api_Out_api_Out_s11.r1 k a l) (fun i => rfl) (fun x xs i => by rw [slices_IndexFunc_api_Out_api_Out_s11.r1, outbox_Done_1.f, Option.bind_some]; rfl), Option.bind_some]
  unfold idxI
  cases l.findIdx? (hasK a) <;> simp
/-- What an outbox may be. -/
def okrow (x : S33) : Prop := (1 ≤ x.f0 ∧ x.f0 ≤ M) ∧ (1 ≤ x.f2 ∧ x.f2 ≤ M) ∧ (1 ≤ x.f1 ∧ x.f1 ≤ 3) ∧ 0 ≤ x.f3 ∧ x.f3 ≤ M
def same (y x : S33) : Prop := y.f1 = x.f1 ∧ y.f2 = x.f2
def Rt (last : Int) (l : List S33) : Prop := l.length ≤ 96 ∧ (0 ≤ last ∧ last ≤ M) ∧ (∀ x ∈ l, okrow x ∧ x.f0 ≤ last) ∧ l.Pairwise (fun y x => y.f0 < x.f0 ∧ ¬ same y x)
def Rr (l0 : List S33) (last : Int) : List S33 → Nat → Int → Prop
  | [], _, lk => l0.length ≤ 96 ∧ (0 ≤ last ∧ last ≤ M) ∧ lk ≤ last
  | x :: xs, i, lk => okrow x ∧ lk < x.f0 ∧ idxI (has x.f1 x.f2) l0 = i ∧ Rr l0 last xs (i + 1) x.f0
theorem Rr_tells (k : Nat) (last : Int) (l : List S33) (hk : l.length < k) (hs : l.length < 1000000) : ∀ (xs : List S33) (i : Nat) (lk : Int), ∃ b, outbox_Right.r1 k last l xs i lk = some b ∧ (b = true ↔ Rr l last xs i lk)
  | [], i, lk => by
    rw [outbox_Right.r1, time_tells, Option.bind_some]
    unfold Rr
    by_cases h1 : (l.length : Int) ≤ 96
    · rw [if_pos h1]
      by_cases h2 : 0 ≤ last ∧ last ≤ M
      · rw [if_pos (decide_eq_true h2)]
        exact ⟨_, rfl, by rw [decide_eq_true_eq]; exact ⟨fun h => ⟨by omega, h2, h⟩, fun h => h.2.2⟩⟩
      · rw [if_neg (by simpa using h2)]
        exact ⟨false, rfl, ⟨(fun h => by cases h), fun h => absurd h.2.1 h2⟩⟩
    · rw [if_neg h1]
      exact ⟨false, rfl, ⟨(fun h => by cases h), fun h => absurd h.1 (by omega)⟩⟩
  | x :: xs, i, lk => by
    obtain ⟨b, h1, h2⟩ := Rr_tells k last l hk hs xs (i + 1) x.f0
    have hf : ∀ (h : ¬ Rr l last (x :: xs) i lk), ∃ b, some false = some b ∧ (b = true ↔ Rr l last (x :: xs) i lk) := fun h => ⟨false, rfl, ⟨(fun h => by cases h), fun q => absurd q h⟩⟩
    rw [outbox_Right.r1, number_tells, number_tells, kinds_tells, time_tells]
    simp only [Option.bind_some, outbox_of.f]
    by_cases a1 : 1 ≤ x.f0 ∧ x.f0 ≤ M
    · rw [if_pos (decide_eq_true a1)]
      by_cases a2 : 1 ≤ x.f2 ∧ x.f2 ≤ M
      · rw [if_pos (decide_eq_true a2)]
        by_cases a3 : 1 ≤ x.f1 ∧ x.f1 ≤ 3
        · rw [if_pos (decide_eq_true a3)]
          by_cases a4 : 0 ≤ x.f3 ∧ x.f3 ≤ M
          · rw [if_pos (decide_eq_true a4)]
            by_cases a5 : x.f0 ≤ lk
            · rw [if_pos a5]
              exact hf fun h => by have := h.2.1; omega
            · rw [if_neg a5, where_tells k _ _ l hk hs, Option.bind_some]
              by_cases a6 : idxI (has x.f1 x.f2) l = i
              · rw [if_pos a6, h1]
                exact ⟨b, rfl, h2.trans ⟨fun h => ⟨⟨a1, a2, a3, a4⟩, by omega, a6, h⟩, fun h => h.2.2.2⟩⟩
              · rw [if_neg a6]
                exact hf fun h => a6 h.2.2.1
          · rw [if_neg (by simpa using a4)]
            exact hf fun h => a4 h.1.2.2.2
        · rw [if_neg (by simpa using a3)]
          exact hf fun h => a3 h.1.2.2.1
      · rw [if_neg (by simpa using a2)]
        exact hf fun h => a2 h.1.2.1
    · rw [if_neg (by simpa using a1)]
      exact hf fun h => a1 h.1.1
theorem Rr_iff (l0 : List S33) (last : Int) : ∀ (xs : List S33) (i : Nat) (lk : Int), Rr l0 last xs i lk ↔ l0.length ≤ 96 ∧ (0 ≤ last ∧ last ≤ M) ∧ lk ≤ last ∧ (∀ x ∈ xs, okrow x ∧ lk < x.f0 ∧ x.f0 ≤ last) ∧ xs.Pairwise (fun y x => y.f0 < x.f0) ∧ ∀ (j : Nat) (x : S33), xs[j]? = some x → idxI (has x.f1 x.f2) l0 = ((i + j : Nat) : Int)
  | [], i, lk => by unfold Rr; simp
  | x :: xs, i, lk => by
    unfold Rr
    rw [Rr_iff l0 last xs (i + 1) x.f0, List.pairwise_cons]
    constructor
    · rintro ⟨h1, h2, h3, h4, h5, h6, h7, h8, h9⟩
      refine ⟨h4, h5, by omega, ?_, ⟨fun y hy => (h7 y hy).2.1, h8⟩, ?_⟩
      · intro y hy
        rcases List.mem_cons.1 hy with rfl | hy
        · exact ⟨h1, h2, h6⟩
        · have := h7 y hy
          exact ⟨this.1, by omega, this.2.2⟩
      · intro j y hy
        cases j with
        | zero =>
          simp only [List.getElem?_cons_zero, Option.some.injEq] at hy
          subst hy
          exact h3
        | succ j =>
          rw [h9 j y (by simpa using hy)]
          omega
    · rintro ⟨h4, h5, h6, h7, ⟨h8, h9⟩, h10⟩
      have h1 := h7 x (by simp)
      refine ⟨h1.1, h1.2.1, h10 0 x rfl, h4, h5, h1.2.2, fun y hy => ?_, h9, fun j y hy => ?_⟩
      · exact ⟨(h7 y (by simp [hy])).1, h8 y hy, (h7 y (by simp [hy])).2.2⟩
      · have := h10 (j + 1) y (by simpa using hy)
        rw [this]
        omega
theorem has_is {y x : S33} : has x.f1 x.f2 y = true ↔ same y x := by unfold has same; simp
theorem Rr_Rt (l : List S33) (last : Int) : Rr l last l 0 0 ↔ Rt last l := by
  rw [Rr_iff]
  unfold Rt
  constructor
  · rintro ⟨h1, h2, h3, h4, h5, h6⟩
    refine ⟨h1, h2, fun x hx => ⟨(h4 x hx).1, (h4 x hx).2.2⟩, pw_of_get fun i j x y hij hx hy => ⟨pw_get h5 hij hx hy, fun hs => ?_⟩⟩
    have h7 := h6 j y hy
    obtain ⟨m, z, e1, e2, e3, _⟩ := idxI_some (p := has y.f1 y.f2) (l := l) (List.any_eq_true.2 ⟨x, List.mem_of_getElem? hx, has_is.2 hs⟩)
    have hm : m = j := by omega
    subst hm
    have h8 : l.findIdx? (has y.f1 y.f2) = some m := by
      unfold idxI at e1
      cases h9 : l.findIdx? (has y.f1 y.f2) with
      | none => rw [h9] at e1; simp only at e1; omega
      | some q => rw [h9] at e1; simp only at e1; congr 1; omega
    rw [List.findIdx?_eq_some_iff_getElem] at h8
    obtain ⟨_, _, hn⟩ := h8
    obtain ⟨hl, rfl⟩ := List.getElem?_eq_some_iff.1 hx
    exact hn i hij (has_is.2 hs)
  · rintro ⟨h1, h2, h3, h4⟩
    refine ⟨h1, h2, h2.1, fun x hx => ⟨(h3 x hx).1, by have := (h3 x hx).1.1; omega, (h3 x hx).2⟩, h4.imp fun h => h.1, fun j x hx => ?_⟩
    obtain ⟨hj, rfl⟩ := List.getElem?_eq_some_iff.1 hx
    have h8 : l.findIdx? (has l[j].f1 l[j].f2) = some j := List.findIdx?_eq_some_iff_getElem.2 ⟨hj, has_is.2 ⟨rfl, rfl⟩, fun i hi hp => (pw_get h4 hi (List.getElem?_eq_getElem (by omega)) hx).2 (has_is.1 hp)⟩
    unfold idxI
    rw [h8]
    simp
theorem right_tells (k : Nat) (last : Int) (l : List S33) (hk : l.length < k) (hs : l.length < 1000000) : ∃ b, outbox_Right.f k last l = some b ∧ (b = true ↔ Rt last l) := by
  obtain ⟨b, h1, h2⟩ := Rr_tells k last l hk hs l 0 0
  unfold outbox_Right.f
  have := outbox_Right.r1_eq k last l (by omega) k 0 0 (by omega) (by omega)
  rw [show ((0 : Nat) : Int) = 0 from rfl, List.drop_zero] at this
  exact ⟨b, this.trans h1, h2.trans (Rr_Rt l last)⟩
theorem right_is {k : Nat} {last : Int} {l : List S33} (hk : l.length < k) (hs : l.length < 1000000) (h : Rt last l) : outbox_Right.f k last l = some true := by
  obtain ⟨b, h1, h2⟩ := right_tells k last l hk hs
  rw [h1, h2.2 h]
theorem right_no {k : Nat} {last : Int} {l : List S33} (hk : l.length < k) (hs : l.length < 1000000) (h : ¬ Rt last l) : outbox_Right.f k last l = some false := by
  obtain ⟨b, h1, h2⟩ := right_tells k last l hk hs
  cases b with
  | false => exact h1
  | true => exact absurd (h2.1 rfl) h
/-- Putting. -/
def good (kind order now : Int) : Prop := (1 ≤ kind ∧ kind ≤ 3) ∧ (1 ≤ order ∧ order ≤ M) ∧ 0 ≤ now ∧ now ≤ M
instance (a b c : Int) : Decidable (good a b c) := by unfold good; exact inferInstance
def putR (last : Int) (l : List S33) (a b c : Int) : Int × List S33 × Int × Int :=
  if good a b c then (if l.any (has a b) = true then (0, [], 0, 9) else if l.length = 96 ∨ last = M then (0, [], 0, 7) else (last + 1, l ++ [⟨last + 1, a, b, c⟩], last + 1, 0)) else (0, [], 0, 1)
theorem put_tells (k : Nat) (last : Int) (l : List S33) (a b c : Int) (hk : l.length < k) (hs : l.length < 1000000) (h : Rt last l) : outbox_Put.f k last l a b c = some (putR last l a b c) := by
  have hl := h.1
  have hla := h.2.1
  have hw : last ≠ M → wrap64 (last + 1) = last + 1 := fun _ => by unfold M at hla; unfold wrap64; omega
  unfold outbox_Put.f putR
  rw [right_is hk hs h, Option.bind_some, if_pos rfl, kinds_tells, number_tells, time_tells]
  simp only [Option.bind_some, outbox_of.f]
  by_cases a1 : 1 ≤ a ∧ a ≤ 3
  · rw [if_pos (decide_eq_true a1)]
    by_cases a2 : 1 ≤ b ∧ b ≤ M
    · rw [if_pos (decide_eq_true a2)]
      by_cases a3 : 0 ≤ c ∧ c ≤ M
      · rw [if_pos (decide_eq_true a3), if_pos (show good a b c from ⟨a1, a2, a3⟩), where_tells k a b l hk hs, Option.bind_some]
        cases h4 : l.any (has a b) with
        | true =>
          obtain ⟨i, x, e, _⟩ := idxI_some h4
          rw [if_pos (by omega), if_pos rfl]
        | false =>
          rw [idxI_none h4, if_neg (show ¬ ((-1 : Int) ≥ 0) by decide), if_neg Bool.false_ne_true]
          by_cases h5 : l.length = 96
          · rw [if_pos (by omega), if_pos (.inl h5)]
          · rw [if_neg (by omega)]
            by_cases h6 : last = M
            · rw [if_pos h6, if_pos (.inr h6)]
            · rw [if_neg h6, if_neg (by rintro (h | h); exact h5 h; exact h6 h), slices_Clip_api_Out_api_Out.f, Option.bind_some, if_pos (by simp; omega), hw h6]
      · rw [if_neg (by simpa using a3), if_neg (show ¬ good a b c from fun h => a3 h.2.2)]
    · rw [if_neg (by simpa using a2), if_neg (show ¬ good a b c from fun h => a2 h.2.1)]
  · rw [if_neg (by simpa using a1), if_neg (show ¬ good a b c from fun h => a1 h.1)]
theorem put_bad (k : Nat) (last : Int) (l : List S33) (a b c : Int) (hk : l.length < k) (hs : l.length < 1000000) (h : ¬ Rt last l) : outbox_Put.f k last l a b c = some (0, [], 0, 1) := by
  unfold outbox_Put.f
  rw [right_no hk hs h]
  rfl
/-- Doing. -/
theorem cutat_filter (key : Int) : ∀ (l : List S33), l.Pairwise (fun y x => y.f0 < x.f0) → ∀ (i : Nat) (x : S33), l[i]? = some x → x.f0 = key → l.take i ++ l.drop (i + 1) = l.filter (fun x => !hasK key x)
  | [], _, i, x, h, _ => by simp at h
  | y :: l, hp, 0, x, h, hx => by
    simp only [List.getElem?_cons_zero, Option.some.injEq] at h
    subst h
    rw [List.pairwise_cons] at hp
    rw [List.take_zero, List.nil_append, List.filter_cons, if_neg (by simp [hasK, hx])]
    simp only [Nat.zero_add, List.drop_succ_cons, List.drop_zero]
    symm
    rw [List.filter_eq_self]
    intro z hz
    have := hp.1 z hz
    simp [hasK]
    omega
  | y :: l, hp, i + 1, x, h, hx => by
    simp only [List.getElem?_cons_succ] at h
    rw [List.pairwise_cons] at hp
    have := hp.1 x (List.mem_of_getElem? h)
    rw [List.take_succ_cons, List.cons_append, List.drop_succ_cons, cutat_filter key l hp.2 i x h hx, List.filter_cons, if_pos (by simp [hasK]; omega)]
def without (key : Int) (l : List S33) : List S33 := l.filter (fun x => !hasK key x)
def doneR (last : Int) (l : List S33) (key : Int) : Int × List S33 × Int × Int × Int × Int × Int :=
  match l.find? (hasK key) with
  | some x => (last, without key l, x.f0, x.f1, x.f2, x.f3, 0)
  | none => (0, [], 0, 0, 0, 0, 8)
theorem done_tells (k : Nat) (last : Int) (l : List S33) (key : Int) (hk : l.length < k) (hs : l.length < 1000000) (h : Rt last l) : outbox_Done.f k last l key = some (doneR last l key) := by
  have hl := h.1
  unfold outbox_Done.f doneR
  rw [right_is hk hs h, Option.bind_some, if_pos rfl, whereK_tells k key l hk hs, Option.bind_some]
  cases h4 : l.any (hasK key) with
  | false =>
    have h5 : l.find? (hasK key) = none := by
      rw [List.find?_eq_none]
      intro x hx hp
      have : l.any (hasK key) = true := List.any_eq_true.2 ⟨x, hx, hp⟩
      rw [h4] at this; cases this
    rw [idxI_none h4, if_pos (by omega), h5]
  | true =>
    obtain ⟨i, x, e, h5, h6, h7⟩ := idxI_some h4
    have hi := (List.getElem?_eq_some_iff.1 h5).1
    rw [e, if_neg (by omega), if_pos (by omega), Int.toNat_natCast, h5, h7, Option.bind_some, slices_Clone_api_Out_api_Out.f, if_pos (by omega), Option.bind_some, slices_Delete_api_Out_api_Out.f, show wrap64 ((i : Int) + 1) = ((i + 1 : Nat) : Int) by unfold wrap64; omega, if_pos ⟨by omega, by omega, by omega⟩, Option.bind_some]
    have := cutat_filter key l (h.2.2.2.imp fun h => h.1) i x h5 (by simpa [hasK] using h6)
    simp only [Int.toNat_natCast, this, without]
theorem done_bad (k : Nat) (last : Int) (l : List S33) (key : Int) (hk : l.length < k) (hs : l.length < 1000000) (h : ¬ Rt last l) : outbox_Done.f k last l key = some (0, [], 0, 0, 0, 0, 1) := by
  unfold outbox_Done.f
  rw [right_no hk hs h]
  rfl
/-- Finding. -/
def findR (l : List S33) (a b : Int) : Int × Int × Int × Int × Int :=
  match l.find? (has a b) with
  | some x => (x.f0, x.f1, x.f2, x.f3, 0)
  | none => (0, 0, 0, 0, 8)
/-- Telling. -/
def later (now : Int) : Int := if M < now + 10 then M else now + 10
def toldOf (now : Int) (l : List S33) : List S33 := l.filter (fun x => decide (x.f3 ≤ now))
def bump (now : Int) (x : S33) : S33 := if x.f3 ≤ now then ⟨x.f0, x.f1, x.f2, later now⟩ else x
theorem tell_tells (k : Nat) (last : Int) (l : List S33) (now : Int) (hk : l.length < k) (hs : l.length < 1000000) (h : Rt last l) : outbox_Tell.f k last l now = some (if 0 ≤ now ∧ now ≤ M then (last, l.map (bump now), toldOf now l, 0) else (0, [], [], 1)) := by
  have hl := h.1
  unfold outbox_Tell.f
  rw [right_is hk hs h, Option.bind_some, if_pos rfl, time_tells, Option.bind_some]
  by_cases hn : 0 ≤ now ∧ now ≤ M
  · rw [if_pos (decide_eq_true hn), if_pos hn, slices_Clone_api_Out_api_Out.f, if_pos (by omega), Option.bind_some, outbox_due.f, Option.bind_some]
    simp only
    have hlat : mn (wrap64 (now + 10)) 1099511627776 = later now := by
      unfold M at hn
      rw [show wrap64 (now + 10) = now + 10 by unfold wrap64; omega]
      rfl
    have key : ∀ (xs : List S33) (i : Nat) (t : List S33), l.drop i = xs → t.length ≤ i → i ≤ l.length → outbox_Tell.r0 k last now l now xs i t ((l.take i).map (bump now) ++ l.drop i) = some (last, l.map (bump now), t ++ toldOf now xs, 0) := by
      intro xs
      induction xs with
      | nil =>
        intro i t hd ht hi
        have h1 := drop_nil_is hd
        rw [outbox_Tell.r0, hd, List.append_nil, List.take_of_length_le h1]
        simp [toldOf]
      | cons x xs ih =>
        intro i t hd ht hi
        obtain ⟨h1, h2, h3⟩ := drop_cons_is hd
        have h4 : ((l.take i).map (bump now) ++ l.drop i)[i]? = some x := by
          rw [List.getElem?_append_right (by simp; omega), hd]
          simp [Nat.min_eq_left (Nat.le_of_lt h1)]
        have h5 : ∀ y : S33, ((l.take i).map (bump now) ++ l.drop i).set i y = (l.take i).map (bump now) ++ y :: xs := by
          intro y
          have e : ((l.take i).map (bump now)).length = i := by simp; omega
          rw [List.set_append_right _ _ (by omega), e, Nat.sub_self, hd, List.set_cons_zero]
        have h6 : (l.take (i + 1)).map (bump now) = (l.take i).map (bump now) ++ [bump now x] := by
          rw [List.take_add_one, h2]
          simp
        rw [outbox_Tell.r0]
        by_cases hx : x.f3 ≤ now
        · rw [if_pos hx, if_pos (by simp; omega), Int.toNat_natCast, h4, Option.bind_some, hlat]
          have := ih (i + 1) (t ++ [x]) h3 (by simp; omega) (by omega)
          rw [h6, h3] at this
          rw [h5]
          simp only [List.append_assoc, List.cons_append, List.nil_append] at this
          rw [show bump now x = ⟨x.f0, x.f1, x.f2, later now⟩ by unfold bump; rw [if_pos hx]] at this
          rw [this]
          simp [toldOf, hx]
        · rw [if_neg hx]
          have := ih (i + 1) t h3 (by omega) (by omega)
          rw [h6, h3] at this
          simp only [List.append_assoc, List.cons_append, List.nil_append] at this
          rw [show bump now x = x by unfold bump; rw [if_neg hx]] at this
          rw [hd, this]
          simp [toldOf, hx]
    have := outbox_Tell.r0_eq k last now l now (by omega) k 0 [] l (by omega) (by omega)
    rw [show ((0 : Nat) : Int) = 0 from rfl, List.drop_zero] at this
    rw [this]
    have h7 := key l 0 [] rfl (by simp) (by omega)
    simpa using h7
  · rw [if_neg (by simpa using hn), if_neg hn]
theorem tell_bad (k : Nat) (last : Int) (l : List S33) (now : Int) (hk : l.length < k) (hs : l.length < 1000000) (h : ¬ Rt last l) : outbox_Tell.f k last l now = some (0, [], [], 1) := by
  unfold outbox_Tell.f
  rw [right_no hk hs h]
  rfl
theorem find_tells (k : Nat) (last : Int) (l : List S33) (a b : Int) (hk : l.length < k) (hs : l.length < 1000000) (h : Rt last l) : outbox_Find.f k last l a b = some (findR l a b) := by
  unfold outbox_Find.f findR
  rw [right_is hk hs h, Option.bind_some, if_pos rfl, outbox_of.f, Option.bind_some]
  simp only [where_tells k a b l hk hs, Option.bind_some]
  cases h4 : l.any (has a b) with
  | false =>
    have h5 : l.find? (has a b) = none := by
      rw [List.find?_eq_none]
      intro x hx hp
      have : l.any (has a b) = true := List.any_eq_true.2 ⟨x, hx, hp⟩
      rw [h4] at this; cases this
    rw [idxI_none h4, if_pos (by omega), h5]
  | true =>
    obtain ⟨i, x, e, h5, h6, h7⟩ := idxI_some h4
    rw [e, if_neg (by omega), if_pos (by omega), Int.toNat_natCast, h5, h7, Option.bind_some]
theorem find_bad (k : Nat) (last : Int) (l : List S33) (a b : Int) (hk : l.length < k) (hs : l.length < 1000000) (h : ¬ Rt last l) : outbox_Find.f k last l a b = some (0, 0, 0, 0, 1) := by
  unfold outbox_Find.f
  rw [right_no hk hs h]
  rfl
theorem in_tells (a b : Int) : tarryref14_in.f a b = some (decide (b ≤ a ∧ a ≤ M)) := by
  unfold tarryref14_in.f M
  split
  · congr 1; rw [decide_eq_decide]; omega
  · congr 1; symm; apply decide_eq_false; omega
def Rq (last : Int) (l0 : List S33) : List S33 → Nat → Prop
  | [], _ => l0.length ≤ 96 ∧ 0 ≤ last ∧ last ≤ M
  | x :: xs, i => okrow x ∧ x.f0 ≤ last ∧ (∀ y ∈ l0.take i, y.f0 < x.f0 ∧ ¬ same y x) ∧ Rq last l0 xs (i + 1)
theorem Rq5_tells (k : Nat) (rec_ : Option Bool) (i : Int) (l0 : List S33) (x : S33) (R : Prop) (h : ∃ b, rec_ = some b ∧ (b = true ↔ R)) : ∀ ys : List S33, ∃ b, tarryref14_Right.r5 k rec_ i l0 x ys = some b ∧ (b = true ↔ (∀ y ∈ ys, y.f0 < x.f0 ∧ ¬ same y x) ∧ R)
  | [] => by
    obtain ⟨b, h1, h2⟩ := h
    exact ⟨b, h1, h2.trans ⟨fun h => ⟨by simp, h⟩, fun h => h.2⟩⟩
  | y :: ys => by
    obtain ⟨b, h1, h2⟩ := Rq5_tells k rec_ i l0 x R h ys
    rw [tarryref14_Right.r5]
    have hf : ¬ (y.f0 < x.f0 ∧ ¬ same y x) → ∃ b, some false = some b ∧ (b = true ↔ (∀ z ∈ y :: ys, z.f0 < x.f0 ∧ ¬ same z x) ∧ R) := fun hn => ⟨false, rfl, ⟨(fun h => by cases h), fun h => absurd (h.1 y (by simp)) hn⟩⟩
    have ht : (y.f0 < x.f0 ∧ ¬ same y x) → ∃ b, tarryref14_Right.r5 k rec_ i l0 x ys = some b ∧ (b = true ↔ (∀ z ∈ y :: ys, z.f0 < x.f0 ∧ ¬ same z x) ∧ R) := fun hy => ⟨b, h1, h2.trans ⟨fun h => ⟨fun z hz => by
      rcases List.mem_cons.1 hz with rfl | hz
      · exact hy
      · exact h.1 z hz, h.2⟩, fun h => ⟨fun z hz => h.1 z (by simp [hz]), h.2⟩⟩⟩
    by_cases a1 : y.f0 ≥ x.f0
    · rw [if_pos a1]
      exact hf (fun h => by omega)
    · rw [if_neg a1]
      by_cases a2 : y.f1 = x.f1
      · rw [if_pos a2]
        by_cases a3 : y.f2 = x.f2
        · rw [if_pos a3]
          exact hf fun h => h.2 ⟨a2, a3⟩
        · rw [if_neg a3]
          exact ht ⟨by omega, fun h => a3 h.2⟩
      · rw [if_neg a2]
        exact ht ⟨by omega, fun h => a2 h.1⟩
theorem Rq_tells (k : Nat) (last : Int) (l0 : List S33) : ∀ (xs : List S33) (i : Nat), i + xs.length = l0.length → ∃ b, tarryref14_Right.r3 k last l0 xs i = some b ∧ (b = true ↔ Rq last l0 xs i)
  | [], i, hi => by
    rw [tarryref14_Right.r3, in_tells]
    unfold Rq
    by_cases a1 : (l0.length : Int) ≤ 96
    · rw [if_pos a1, Option.bind_some]
      exact ⟨_, rfl, by rw [decide_eq_true_eq]; omega⟩
    · rw [if_neg a1]
      exact ⟨false, rfl, ⟨(fun h => by cases h), fun h => by omega⟩⟩
  | x :: xs, i, hi => by
    have hf : ¬ Rq last l0 (x :: xs) i → ∃ b, some false = some b ∧ (b = true ↔ Rq last l0 (x :: xs) i) := fun hn => ⟨false, rfl, ⟨(fun h => by cases h), fun h => absurd h hn⟩⟩
    have ih := Rq_tells k last l0 xs (i + 1) (by simp only [List.length_cons] at hi; omega)
    obtain ⟨b, h1, h2⟩ := Rq5_tells k _ (i : Int) l0 x _ ih (l0.take i)
    rw [tarryref14_Right.r3, in_tells, in_tells, in_tells]
    simp only [Option.bind_some]
    by_cases a1 : 1 ≤ x.f0 ∧ x.f0 ≤ M
    · rw [if_pos (decide_eq_true a1)]
      by_cases a2 : 1 ≤ x.f2 ∧ x.f2 ≤ M
      · rw [if_pos (decide_eq_true a2)]
        by_cases a3 : x.f1 < 1
        · rw [if_pos a3]
          exact hf fun h => by have := h.1.2.2.1; omega
        · rw [if_neg a3]
          by_cases a4 : x.f1 > 3
          · rw [if_pos a4]
            exact hf fun h => by have := h.1.2.2.1; omega
          · rw [if_neg a4]
            by_cases a5 : 0 ≤ x.f3 ∧ x.f3 ≤ M
            · rw [if_pos (decide_eq_true a5)]
              by_cases a6 : x.f0 > last
              · rw [if_pos a6]
                exact hf fun h => by have := h.2.1; omega
              · rw [if_neg a6, if_pos (by simp only [List.length_cons] at hi; omega)]
                refine ⟨b, ?_, h2.trans ⟨fun h => ⟨⟨a1, a2, ⟨by omega, by omega⟩, a5⟩, by omega, h.1, h.2⟩, fun h => ⟨h.2.2.1, h.2.2.2⟩⟩⟩
                rw [← h1]
                simp
            · rw [if_neg (by simpa using a5)]
              exact hf fun h => a5 h.1.2.2.2
      · rw [if_neg (by simpa using a2)]
        exact hf fun h => a2 h.1.2.1
    · rw [if_neg (by simpa using a1)]
      exact hf fun h => a1 h.1.1
theorem Rq_iff (last : Int) (l0 : List S33) : ∀ (xs : List S33) (i : Nat), l0.drop i = xs → (Rq last l0 xs i ↔ l0.length ≤ 96 ∧ (0 ≤ last ∧ last ≤ M) ∧ (∀ x ∈ xs, okrow x ∧ x.f0 ≤ last) ∧ ∀ (j m : Nat) (y x : S33), j < m → i ≤ m → l0[j]? = some y → l0[m]? = some x → y.f0 < x.f0 ∧ ¬ same y x)
  | [], i, h => by
    have hi := drop_nil_is h
    unfold Rq
    refine ⟨fun h2 => ⟨h2.1, h2.2, by simp, fun j m y x hjm hm hy hx => ?_⟩, fun h2 => ⟨h2.1, h2.2.1⟩⟩
    have := (List.getElem?_eq_some_iff.1 hx).1
    omega
  | x :: xs, i, h => by
    obtain ⟨h1, h2, h3⟩ := drop_cons_is h
    unfold Rq
    rw [Rq_iff last l0 xs (i + 1) h3]
    constructor
    · rintro ⟨a1, a2, a3, a4, a5, a6, a7⟩
      refine ⟨a4, a5, fun y hy => ?_, fun j m y z hjm hm hy hz => ?_⟩
      · rcases List.mem_cons.1 hy with rfl | hy
        · exact ⟨a1, a2⟩
        · exact a6 y hy
      · rcases Nat.lt_or_eq_of_le hm with h4 | h4
        · exact a7 j m y z hjm h4 hy hz
        · subst h4
          rw [h2] at hz
          obtain rfl := Option.some.inj hz
          refine a3 y (List.mem_of_getElem? (i := j) ?_)
          rw [List.getElem?_take, if_pos hjm]
          exact hy
    · rintro ⟨a4, a5, a6, a7⟩
      refine ⟨(a6 x (by simp)).1, (a6 x (by simp)).2, fun y hy => ?_, a4, a5, fun y hy => a6 y (by simp [hy]), fun j m y z hjm hm => a7 j m y z hjm (by omega)⟩
      obtain ⟨j, hj⟩ := List.getElem?_of_mem hy
      rw [List.getElem?_take] at hj
      split at hj
      · rename_i hlt
        exact a7 j i y x hlt (Nat.le_refl _) hj h2
      · cases hj
theorem rright_tells (k : Nat) (last : Int) (l : List S33) (hk : l.length < k) (hs : l.length < 1000000) : ∃ b, tarryref14_Right.f k last l = some b ∧ (b = true ↔ Rt last l) := by
  obtain ⟨b, h1, h2⟩ := Rq_tells k last l l 0 (by simp)
  unfold tarryref14_Right.f
  have := tarryref14_Right.r3_eq k last l (fun i => by simp only [List.drop_zero, List.length_take]; omega) (by omega) k 0 (by omega) (by omega)
  rw [show ((0 : Nat) : Int) = 0 from rfl, List.drop_zero] at this
  refine ⟨b, this.trans h1, h2.trans ?_⟩
  rw [Rq_iff last l l 0 rfl]
  unfold Rt
  refine ⟨fun h => ⟨h.1, h.2.1, h.2.2.1, pw_of_get fun i j x y hij hx hy => h.2.2.2 i j x y hij (Nat.zero_le _) hx hy⟩, fun h => ⟨h.1, h.2.1, h.2.2.1, fun j m y x hjm _ hy hx => pw_get h.2.2.2 hjm hy hx⟩⟩
theorem rfind_tells (k : Nat) (last : Int) (l : List S33) (a b : Int) (hk : l.length < k) (hs : l.length < 1000000) : tarryref14_Find.f k last l a b = some (match l.find? (has a b) with | some x => (x.f0, x.f1, x.f2, x.f3) | none => (0, 0, 0, 0)) := by
  unfold tarryref14_Find.f
  have := tarryref14_Find.r1_eq k a b l (by omega) k 0 (by omega) (by omega)
  rw [show ((0 : Nat) : Int) = 0 from rfl, List.drop_zero] at this
  rw [this]
  have key : ∀ xs : List S33, tarryref14_Find.r1 k a b l xs = some (match xs.find? (has a b) with | some x => (x.f0, x.f1, x.f2, x.f3) | none => (0, 0, 0, 0)) := by
    intro xs
    induction xs with
    | nil => rfl
    | cons x xs ih =>
      rw [tarryref14_Find.r1, List.find?_cons, ih]
      by_cases a1 : x.f1 = a
      · by_cases a2 : x.f2 = b
        · rw [if_pos a1, if_pos a2, show has a b x = true by simp [has, a1, a2]]
        · rw [if_pos a1, if_neg a2, show has a b x = false by simp [has, a2]]
      · rw [if_neg a1, show has a b x = false by simp [has, a1]]
  exact key l
theorem rget_tells (k : Nat) (last : Int) (l : List S33) (a : Int) (hk : l.length < k) (hs : l.length < 1000000) : tarryref14_Get.f k last l a = some (match l.find? (hasK a) with | some x => (x.f0, x.f1, x.f2, x.f3) | none => (0, 0, 0, 0)) := by
  unfold tarryref14_Get.f
  have := tarryref14_Get.r1_eq k a l (by omega) k 0 (by omega) (by omega)
  rw [show ((0 : Nat) : Int) = 0 from rfl, List.drop_zero] at this
  rw [this]
  have key : ∀ xs : List S33, tarryref14_Get.r1 k a l xs = some (match xs.find? (hasK a) with | some x => (x.f0, x.f1, x.f2, x.f3) | none => (0, 0, 0, 0)) := by
    intro xs
    induction xs with
    | nil => rfl
    | cons x xs ih =>
      rw [tarryref14_Get.r1, List.find?_cons, ih]
      by_cases a1 : x.f0 = a
      · rw [if_pos a1, show hasK a x = true by simp [hasK, a1]]
      · rw [if_neg a1, show hasK a x = false by simp [hasK, a1]]
  exact key l
theorem eq_of (a b : S33) (h0 : a.f0 = b.f0) (h1 : a.f1 = b.f1) (h2 : a.f2 = b.f2) (h3 : a.f3 = b.f3) : a = b := by cases a; cases b; simp_all
instance : DecidableEq S33 := fun a b => if h : a.f0 = b.f0 ∧ a.f1 = b.f1 ∧ a.f2 = b.f2 ∧ a.f3 = b.f3 then isTrue (eq_of a b h.1 h.2.1 h.2.2.1 h.2.2.2) else isFalse (fun e => h (by rw [e]; exact ⟨rfl, rfl, rfl, rfl⟩))
theorem same_self (k : Nat) (a : List S33) (hk : a.length < k) (hs : a.length < 1000000) : tarryref14_Same.f k a a = some true := by
  unfold tarryref14_Same.f
  rw [if_pos rfl]
  have key : ∀ (xs : List S33) (i : Nat), a.drop i = xs → tarryref14_Same.r1 k a a xs i = some true := by
    intro xs
    induction xs with
    | nil => intro i _; rfl
    | cons x xs ih =>
      intro i hi
      obtain ⟨h1, h2, h3⟩ := drop_cons_is hi
      rw [tarryref14_Same.r1, Int.toNat_natCast, h2, Option.bind_some, if_pos (by simp), ih (i + 1) h3]
  have := tarryref14_Same.r1_eq k a a (by omega) k 0 (by omega) (by omega)
  rw [show ((0 : Nat) : Int) = 0 from rfl, List.drop_zero] at this
  rw [this, key a 0 rfl]
theorem like_self (k : Nat) (n : Int) (a : List S33) (hk : a.length < k) (hs : a.length < 1000000) : tarryref14_Like.f k n a n a = some true := by
  unfold tarryref14_Like.f
  rw [if_pos rfl, same_self k a hk hs]
  rfl
theorem rdone_tells (k : Nat) (last : Int) (l : List S33) (a : Int) (hk : l.length < k) (hs : l.length < 1000000) : tarryref14_Done.f k last l a = some (last, without a l) := by
  unfold tarryref14_Done.f
  have := tarryref14_Done.r1_eq k last a l (by omega) k 0 [] (by omega) (by omega)
  rw [show ((0 : Nat) : Int) = 0 from rfl, List.drop_zero] at this
  rw [this]
  have key : ∀ (xs ys : List S33), xs.length + ys.length < 2000000 → tarryref14_Done.r1 k last a l xs ys = some (last, ys ++ without a xs) := by
    intro xs
    induction xs with
    | nil => intro ys _; simp [tarryref14_Done.r1, without]
    | cons x xs ih =>
      intro ys h
      simp only [List.length_cons] at h
      rw [tarryref14_Done.r1]
      by_cases a1 : x.f0 = a
      · rw [if_pos a1, ih _ (by omega)]
        simp [without, hasK, a1]
      · rw [if_neg a1, if_pos (by simp; omega), ih _ (by simp; omega)]
        simp [without, hasK, a1]
  rw [key l [] (by simp; omega)]
  rfl
theorem rtold_tells (k : Nat) (last : Int) (l : List S33) (now : Int) (hk : l.length < k) (hs : l.length < 1000000) : tarryref14_Told.f k last l now = some (toldOf now l) := by
  unfold tarryref14_Told.f
  have := tarryref14_Told.r1_eq k now l (by omega) k 0 [] (by omega) (by omega)
  rw [show ((0 : Nat) : Int) = 0 from rfl, List.drop_zero] at this
  rw [this]
  have key : ∀ (xs ys : List S33), xs.length + ys.length < 2000000 → tarryref14_Told.r1 k now l xs ys = some (ys ++ toldOf now xs) := by
    intro xs
    induction xs with
    | nil => intro ys _; simp [tarryref14_Told.r1, toldOf]
    | cons x xs ih =>
      intro ys h
      simp only [List.length_cons] at h
      rw [tarryref14_Told.r1]
      by_cases a1 : x.f3 ≤ now
      · rw [if_pos a1, if_pos (by simp; omega), ih _ (by simp; omega)]
        simp [toldOf, a1]
      · rw [if_neg a1, ih _ (by omega)]
        simp [toldOf, a1]
  rw [key l [] (by simp; omega)]
  rfl
theorem rtell_tells (k : Nat) (last : Int) (l : List S33) (now : Int) (hk : l.length < k) (hs : l.length < 1000000) (h0 : 0 ≤ now) (h1 : now ≤ M) : tarryref14_Tell.f k last l now = some (last, l.map (bump now)) := by
  have hw : wrap64 (now + 10) = now + 10 := by unfold M at h1; unfold wrap64; omega
  unfold tarryref14_Tell.f
  rw [hw]
  by_cases hm : now + 10 > 1099511627776
  · rw [if_pos hm]
    have hlat : later now = 1099511627776 := by unfold later; rw [if_pos hm]
    have := tarryref14_Tell.r1_eq k last now l (by omega) k 0 [] (by omega) (by omega)
    rw [show ((0 : Nat) : Int) = 0 from rfl, List.drop_zero] at this
    rw [this]
    have key : ∀ (xs ys : List S33), xs.length + ys.length < 2000000 → tarryref14_Tell.r1 k last now l xs ys = some (last, ys ++ xs.map (bump now)) := by
      intro xs
      induction xs with
      | nil => intro ys _; simp [tarryref14_Tell.r1]
      | cons x xs ih =>
        intro ys h
        simp only [List.length_cons] at h
        rw [tarryref14_Tell.r1]
        by_cases a1 : x.f3 ≤ now
        · rw [if_pos a1, if_pos (by simp; omega), ih _ (by simp; omega)]
          simp [bump, a1, hlat]
        · rw [if_neg a1, if_pos (by simp; omega), ih _ (by simp; omega)]
          simp [bump, a1]
    rw [key l [] (by simp; omega)]
    rfl
  · rw [if_neg hm]
    have hlat : later now = now + 10 := by unfold later; rw [if_neg hm]
    have := tarryref14_Tell.r3_eq k last now l (by omega) k 0 [] (by omega) (by omega)
    rw [show ((0 : Nat) : Int) = 0 from rfl, List.drop_zero] at this
    rw [this]
    have key : ∀ (xs ys : List S33), xs.length + ys.length < 2000000 → tarryref14_Tell.r3 k last now l xs ys = some (last, ys ++ xs.map (bump now)) := by
      intro xs
      induction xs with
      | nil => intro ys _; simp [tarryref14_Tell.r3]
      | cons x xs ih =>
        intro ys h
        simp only [List.length_cons] at h
        rw [tarryref14_Tell.r3]
        by_cases a1 : x.f3 ≤ now
        · rw [if_pos a1, if_pos (by simp; omega), hw, ih _ (by simp; omega)]
          simp [bump, a1, hlat]
        · rw [if_neg a1, if_pos (by simp; omega), ih _ (by simp; omega)]
          simp [bump, a1]
    rw [key l [] (by simp; omega)]
    rfl
theorem find_any {p : S33 → Bool} {l : List S33} : (∃ x, l.find? p = some x ∧ x ∈ l ∧ p x = true ∧ l.any p = true) ∨ (l.find? p = none ∧ l.any p = false) := by
  cases h : l.find? p with
  | some x =>
    have h1 := List.mem_of_find?_eq_some h
    have h2 := List.find?_some h
    exact .inl ⟨x, rfl, h1, h2, List.any_eq_true.2 ⟨x, h1, h2⟩⟩
  | none =>
    refine .inr ⟨rfl, ?_⟩
    rw [List.find?_eq_none] at h
    rw [List.any_eq_false]
    exact fun x hx => h x hx
theorem rput_tells (k : Nat) (last : Int) (l : List S33) (a b c : Int) (hk : l.length < k) (hs : l.length < 1000000) (h : Rt last l) : tarryref14_Put.f k last l a b c = some (putR last l a b c) := by
  have hl := h.1
  have hla := h.2.1
  have hw : last ≠ M → wrap64 (last + 1) = last + 1 := fun _ => by unfold M at hla; unfold wrap64; omega
  obtain ⟨q, h1, h2⟩ := rright_tells k last l hk hs
  unfold tarryref14_Put.f putR
  rw [h1, h2.2 h, Option.bind_some, if_pos rfl, in_tells, in_tells]
  simp only [Option.bind_some]
  by_cases a1 : a < 1
  · rw [if_pos a1, if_neg (show ¬ good a b c from fun h => by have := h.1; omega)]
  · rw [if_neg a1]
    by_cases a2 : a > 3
    · rw [if_pos a2, if_neg (show ¬ good a b c from fun h => by have := h.1; omega)]
    · rw [if_neg a2]
      by_cases a3 : 1 ≤ b ∧ b ≤ M
      · rw [if_pos (decide_eq_true a3)]
        by_cases a4 : 0 ≤ c ∧ c ≤ M
        · rw [if_pos (decide_eq_true a4), if_pos (show good a b c from ⟨⟨by omega, by omega⟩, a3, a4⟩), rfind_tells k last l a b hk hs, Option.bind_some]
          rcases find_any (p := has a b) (l := l) with ⟨x, e1, e2, e3, e4⟩ | ⟨e1, e2⟩
          · have := (h.2.2.1 x e2).1.1
            rw [e1, e4]
            simp only
            rw [if_pos (by omega), if_pos trivial]
          · rw [e1, e2]
            simp only
            rw [if_neg (by omega), if_neg Bool.false_ne_true]
            by_cases h5 : l.length = 96
            · rw [if_pos (by omega), if_pos (.inl h5)]
            · rw [if_neg (by omega)]
              by_cases h6 : last = M
              · rw [if_pos h6, if_pos (.inr h6)]
              · rw [if_neg h6, if_neg (show ¬ (l.length = 96 ∨ last = M) by rintro (h | h); exact h5 h; exact h6 h), if_pos (by simp; omega), if_pos (by simp; omega), hw h6]
                rfl
        · rw [if_neg (by simpa using a4), if_neg (show ¬ good a b c from fun h => a4 h.2.2)]
      · rw [if_neg (by simpa using a3), if_neg (show ¬ good a b c from fun h => a3 h.2.1)]
theorem rput_bad (k : Nat) (last : Int) (l : List S33) (a b c : Int) (hk : l.length < k) (hs : l.length < 1000000) (h : ¬ Rt last l) : tarryref14_Put.f k last l a b c = some (0, [], 0, 1) := by
  obtain ⟨q, h1, h2⟩ := rright_tells k last l hk hs
  unfold tarryref14_Put.f
  rw [h1, Option.bind_some, if_neg (fun e => h (h2.1 e))]
theorem few_tells (a : Int) (l : List S33) : tarrylaw14_few.f a l = some (a, l.take 98) := by
  unfold tarrylaw14_few.f
  have h : mn (l.length : Int) 98 = ((min l.length 98 : Nat) : Int) := by unfold mn; split <;> omega
  rw [h, if_pos (by omega), if_pos (by omega), Int.toNat_natCast, List.drop_zero]
  congr 2
  rcases Nat.le_total l.length 98 with h | h
  · rw [List.take_of_length_le (by omega), List.take_of_length_le (by omega)]
  · rw [Nat.min_eq_right h]
theorem alive_tells : tarrylaw14_alive.f 200 = some true := by decide +kernel
theorem OutboxGoes : tarrylaw14_OutboxGoes.Pure := by
  intro last l0 a b c key _ _ _ _ _ _
  refine ⟨200, ?_⟩
  unfold tarrylaw14_OutboxGoes.f
  rw [few_tells, Option.bind_some]
  dsimp only
  have hl : (l0.take 98).length ≤ 98 := by rw [List.length_take]; omega
  generalize l0.take 98 = l at hl
  obtain ⟨b1, h1, h2⟩ := right_tells 200 last l (by omega) (by omega)
  obtain ⟨b2, h3, h4⟩ := rright_tells 200 last l (by omega) (by omega)
  have hb : b1 = b2 := by rw [Bool.eq_iff_iff, h2, h4]
  subst hb
  by_cases hr : Rt last l
  · obtain rfl : b1 = true := h2.2 hr
    have hl96 := hr.1
    rw [put_tells 200 last l a b c (by omega) (by omega) hr, done_tells 200 last l key (by omega) (by omega) hr, find_tells 200 last l a b (by omega) (by omega) hr, tell_tells 200 last l c (by omega) (by omega) hr, rput_tells 200 last l a b c (by omega) (by omega) hr, h1, h3]
    have hput : (putR last l a b c).2.1.length < 200 := by
      unfold putR
      split
      · split
        · simp
        · split
          · simp
          · simp; omega
      · simp
    generalize putR last l a b c = pr at hput ⊢
    obtain ⟨p1, p2, p3, p4⟩ := pr
    simp only at hput
    simp only [Option.bind_some, if_true, like_self 200 p1 p2 hput (by omega), alive_tells]
    have hw : (without key l).length ≤ l.length := List.length_filter_le _ _
    have ht : (toldOf c l).length ≤ l.length := List.length_filter_le _ _
    -- done
    have h28 : tarrylaw14_OutboxGoes.j28 200 key (doneR last l key).2.1 l (doneR last l key).1 (doneR last l key).2.2.1 (doneR last l key).2.2.2.1 (doneR last l key).2.2.2.2.1 (doneR last l key).2.2.2.2.2.1 (doneR last l key).2.2.2.2.2.2 last = some true := by
      unfold tarrylaw14_OutboxGoes.j28
      rw [rget_tells 200 last l key (by omega) (by omega), Option.bind_some]
      rcases find_any (p := hasK key) (l := l) with ⟨x, e1, e2, e3, e4⟩ | ⟨e1, e2⟩
      · have := (hr.2.2.1 x e2).1.1
        unfold doneR
        rw [e1]
        dsimp only
        rw [if_neg (by omega), if_pos rfl, if_pos (by simp), rdone_tells 200 last l key (by omega) (by omega), Option.bind_some]
        dsimp only
        rw [like_self 200 last _ (by omega) (by omega)]
        rfl
      · unfold doneR
        rw [e1]
        dsimp only
        rw [if_pos rfl, if_pos rfl, if_pos (by simp), like_self 200 0 [] (by simp) (by simp)]
        rfl
    obtain ⟨t1, t2, t3, t4, htr, hc⟩ : ∃ (t1 : Int) (t2 t3 : List S33) (t4 : Int), (if 0 ≤ c ∧ c ≤ M then (last, l.map (bump c), toldOf c l, (0 : Int)) else (0, [], [], 1)) = (t1, t2, t3, t4) ∧ ((0 ≤ c ∧ c ≤ M) ∧ t1 = last ∧ t2 = l.map (bump c) ∧ t3 = toldOf c l ∧ t4 = 0 ∨ ¬ (0 ≤ c ∧ c ≤ M) ∧ t1 = 0 ∧ t2 = [] ∧ t3 = [] ∧ t4 = 1) := by
      by_cases hc : 0 ≤ c ∧ c ≤ M
      · exact ⟨_, _, _, _, if_pos hc, .inl ⟨hc, rfl, rfl, rfl, rfl⟩⟩
      · exact ⟨_, _, _, _, if_neg hc, .inr ⟨hc, rfl, rfl, rfl, rfl⟩⟩
    rw [htr]
    dsimp only
    generalize doneR last l key = dr at h28 ⊢
    obtain ⟨d1, d2, d3, d4, d5, d6, d7⟩ := dr
    dsimp only at h28 ⊢
    have h26 : tarrylaw14_OutboxGoes.j26 200 c key d2 t2 t3 l d1 d3 d4 d5 d6 d7 t1 t4 last = some true := by
      unfold tarrylaw14_OutboxGoes.j26
      rw [h28]
      rcases hc with ⟨hc, rfl, rfl, rfl, rfl⟩ | ⟨hc, rfl, rfl, rfl, rfl⟩
      · rw [if_neg (show ¬ c < 0 by omega), if_neg (show ¬ c > 1099511627776 by unfold M at hc; omega), if_pos rfl, rtell_tells 200 _ l c (by omega) (by omega) (by omega) (by omega), Option.bind_some]
        dsimp only
        rw [like_self 200 _ _ (by simp; omega) (by simp; omega), Option.bind_some, if_pos rfl, rtold_tells 200 _ l c (by omega) (by omega), Option.bind_some, same_self 200 _ (by omega) (by omega)]
        rfl
      · rw [like_self 200 0 [] (by simp) (by simp)]
        by_cases c1 : c < 0
        · rw [if_pos c1]
          rfl
        · rw [if_neg c1, if_pos (show c > 1099511627776 by unfold M at hc; omega)]
          rfl
    unfold tarrylaw14_OutboxGoes.j14
    rw [rfind_tells 200 last l a b (by omega) (by omega)]
    simp only [h26, Bool.false_eq_true, if_false, if_true, Option.bind_some]
    unfold findR
    rcases find_any (p := has a b) (l := l) with ⟨x, e1, e2, e3, e4⟩ | ⟨e1, e2⟩
    · have := (hr.2.2.1 x e2).1.1
      rw [e1]
      have h7 : x.f0 > 0 := by omega
      have h8 : ¬ x.f0 = 0 := by omega
      simp [h7, h8]
    · rw [e1]
      simp
  · obtain rfl : b1 = false := by cases b1 with | false => rfl | true => exact absurd (h2.1 rfl) hr
    rw [put_bad 200 last l a b c (by omega) (by omega) hr, done_bad 200 last l key (by omega) (by omega) hr, find_bad 200 last l a b (by omega) (by omega) hr, tell_bad 200 last l c (by omega) (by omega) hr, rput_bad 200 last l a b c (by omega) (by omega) hr, h1, h3]
    unfold tarrylaw14_OutboxGoes.j14
    simp [alive_tells, like_self 200 0 [] (by simp) (by simp)]
end Go.Proofs.Ytapdeoioenblfaa.Pure
