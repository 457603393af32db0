/- OutboxTells: OutboxTells: at every list of acts the statement's Go function answers true (keys are never given twice; what is done is done once, and told no more; what is told was put, and not done, and told again when its time has come); no further condition. -/
import Derived.Test.YtapdeoioenblfaaROutboxTells
namespace Go.Proofs.Ytapdeoioenblfaa.Pure
open Go Go.RowKit Go.Proofs.Ytapdeoioenblfaa.POutboxTells Go.Proofs.YtapdeoioenblfaaV 
set_option linter.unusedSimpArgs false
set_option linter.unusedVariables false
theorem take_drop0 {α : Type} (l : List α) (i : Nat) : (l.take i).drop 0 = l.take i := rfl
theorem w64n {n : Int} (h1 : -9000000000000000000 ≤ n) (h2 : n ≤ 9000000000000000000) : wrap64 n = n := by unfold wrap64; omega
/-- A binary search's middle. -/
theorem mid_is {i j : Nat} (hi : i ≤ 1000000) (hj : j ≤ 1000000) : wrap64 ((IntKind.u64.wrap (wrap64 ((i : Int) + (j : Int)))).fdiv (2 ^ min (1 : Int).toNat IntKind.u64.bits)) = (((i + j) / 2 : Nat) : Int) := by
  have e1 : wrap64 ((i : Int) + (j : Int)) = ((i + j : Nat) : Int) := by unfold wrap64; omega
  have e2 : IntKind.u64.wrap ((i + j : Nat) : Int) = ((i + j : Nat) : Int) := by
    have h : IntKind.u64.wrap ((i + j : Nat) : Int) = ((i + j : Nat) : Int) % 18446744073709551616 := rfl
    rw [h]
    omega
  have e3 : (2 : Int) ^ min (1 : Int).toNat IntKind.u64.bits = 2 := by decide
  rw [e1, e2, e3, Int.fdiv_eq_ediv_of_nonneg _ (by decide)]
  unfold wrap64
  omega
/-- The things ahead of the first one that is not so. -/
theorem tw_len_le {α : Type} (p : α → Bool) (l : List α) : (l.takeWhile p).length ≤ l.length := by
  induction l with
  | nil => simp
  | cons x xs ih => rw [List.takeWhile_cons]; split <;> simp <;> omega
theorem tw_lt {α : Type} (p : α → Bool) : ∀ (l : List α) (i : Nat) (x : α), l[i]? = some x → i < (l.takeWhile p).length → p x = true
  | [], i, x, h, _ => by simp at h
  | y :: l, 0, x, h, hi => by
    simp only [List.getElem?_cons_zero, Option.some.injEq] at h
    subst h
    rw [List.takeWhile_cons] at hi
    by_cases hp : p y = true
    · exact hp
    · rw [if_neg hp] at hi; simp at hi
  | y :: l, i + 1, x, h, hi => by
    simp only [List.getElem?_cons_succ] at h
    rw [List.takeWhile_cons] at hi
    split at hi
    · exact tw_lt p l i x h (by simpa using hi)
    · simp at hi
theorem tw_at {α : Type} (p : α → Bool) : ∀ (l : List α) (x : α), l[(l.takeWhile p).length]? = some x → p x = false
  | [], x, h => by simp at h
  | y :: l, x, h => by
    rw [List.takeWhile_cons] at h
    by_cases hp : p y = true
    · rw [if_pos hp] at h
      simp only [List.length_cons, List.getElem?_cons_succ] at h
      exact tw_at p l x h
    · rw [if_neg hp] at h
      simp only [List.length_nil, List.getElem?_cons_zero, Option.some.injEq] at h
      subst h
      simpa using hp
/-- Where what is so stands ahead of what is not. -/
def Downs {α : Type} (p : α → Bool) (l : List α) : Prop := ∀ (i j : Nat) (x y : α), i < j → l[i]? = some x → l[j]? = some y → p y = true → p x = true
theorem tw_ge {α : Type} {p : α → Bool} {l : List α} (h : Downs p l) {i : Nat} {x : α} (hx : l[i]? = some x) (hi : (l.takeWhile p).length ≤ i) : p x = false := by
  have hl := (List.getElem?_eq_some_iff.1 hx).1
  obtain ⟨y, hn⟩ : ∃ y, l[(l.takeWhile p).length]? = some y := ⟨_, List.getElem?_eq_getElem (by omega)⟩
  have h0 := tw_at p l _ hn
  rcases Nat.lt_or_eq_of_le hi with h1 | h1
  · cases hp : p x with
    | false => rfl
    | true => rw [h _ _ _ _ h1 hn hx hp] at h0; cases h0
  · rw [h1, hx] at hn
    obtain rfl := Option.some.inj hn
    exact h0
theorem take_tw {α : Type} (p : α → Bool) (l : List α) : l.take (l.takeWhile p).length = l.takeWhile p := by
  induction l with
  | nil => rfl
  | cons x xs ih => rw [List.takeWhile_cons]; split <;> simp [ih]
theorem drop_tw {α : Type} (p : α → Bool) (l : List α) : l.drop (l.takeWhile p).length = l.dropWhile p := by
  induction l with
  | nil => rfl
  | cons x xs ih => rw [List.takeWhile_cons, List.dropWhile_cons]; split <;> simp [ih]
theorem pw_get {α : Type} {R : α → α → Prop} {l : List α} (h : l.Pairwise R) {i j : Nat} {x y : α} (hij : i < j) (hx : l[i]? = some x) (hy : l[j]? = some y) : R x y := by
  obtain ⟨h1, rfl⟩ := List.getElem?_eq_some_iff.1 hx
  obtain ⟨h2, rfl⟩ := List.getElem?_eq_some_iff.1 hy
  exact List.pairwise_iff_getElem.1 h i j h1 h2 hij
theorem pw_of_get {α : Type} {R : α → α → Prop} {l : List α} (h : ∀ (i j : Nat) (x y : α), i < j → l[i]? = some x → l[j]? = some y → R x y) : l.Pairwise R :=
  List.pairwise_iff_getElem.2 fun i j h1 h2 hij => h i j _ _ hij (List.getElem?_eq_getElem h1) (List.getElem?_eq_getElem h2)
theorem drop_cons_is {α : Type} {l : List α} {i : Nat} {x : α} {xs : List α} (h : l.drop i = x :: xs) : i < l.length ∧ l[i]? = some x ∧ l.drop (i + 1) = xs := by
  have h1 : i < l.length := by have := congrArg List.length h; simp at this; omega
  rw [List.drop_eq_getElem_cons h1] at h
  obtain ⟨h2, h3⟩ := List.cons.inj h
  exact ⟨h1, by rw [List.getElem?_eq_getElem h1, h2], h3⟩
theorem drop_nil_is {α : Type} {l : List α} {i : Nat} (h : l.drop i = []) : l.length ≤ i := by have := congrArg List.length h; simp at this; omega
theorem filter_split {α : Type} (p : α → Bool) (l : List α) : (l.filter p).length + (l.filter (fun x => !p x)).length = l.length := by
  induction l with
  | nil => rfl
  | cons x xs ih => by_cases h : p x = true <;> simp [List.filter_cons, h] <;> omega
theorem mem_tw_dw {α : Type} (p : α → Bool) (l : List α) (y : α) : (y ∈ l.takeWhile p ∨ y ∈ l.dropWhile p) ↔ y ∈ l := by
  rw [← List.mem_append, List.takeWhile_append_dropWhile]
theorem mem_tw {α : Type} {p : α → Bool} {l : List α} {y : α} (h : y ∈ l.takeWhile p) : p y = true := by
  obtain ⟨i, hi⟩ := List.getElem?_of_mem h
  have hlt := (List.getElem?_eq_some_iff.1 hi).1
  rw [← take_tw, List.getElem?_take, if_pos hlt] at hi
  exact tw_lt p l i y hi hlt
theorem mem_dw {α : Type} {p : α → Bool} {l : List α} (hd : Downs p l) {y : α} (h : y ∈ l.dropWhile p) : p y = false := by
  obtain ⟨i, hi⟩ := List.getElem?_of_mem h
  rw [← drop_tw, List.getElem?_drop] at hi
  exact tw_ge hd hi (by omega)
/-- Two rows that rise, of the same things, are the same row. -/
theorem eq_of_rise {α : Type} {R : α → α → Prop} (irr : ∀ a b, R a b → ¬ R b a) : ∀ (l l' : List α), l.Pairwise R → l'.Pairwise R → (∀ x, x ∈ l ↔ x ∈ l') → l = l'
  | [], [], _, _, _ => rfl
  | [], b :: l', _, _, h => by have := (h b).2 (by simp); cases this
  | a :: l, [], _, _, h => by have := (h a).1 (by simp); cases this
  | a :: l, b :: l', h1, h2, h => by
    rw [List.pairwise_cons] at h1 h2
    have hab : a = b := by
      rcases List.mem_cons.1 ((h a).1 (by simp)) with e | e
      · exact e
      rcases List.mem_cons.1 ((h b).2 (by simp)) with e2 | e2
      · exact e2.symm
      exact absurd (h1.1 b e2) (irr _ _ (h2.1 a e))
    subst hab
    have hna : ∀ x, R x x → False := fun x hx => irr x x hx hx
    rw [eq_of_rise irr l l' h1.2 h2.2 fun x => ⟨fun hx => ?_, fun hx => ?_⟩]
    · rcases List.mem_cons.1 ((h x).1 (by simp [hx])) with e | e
      · subst e; exact absurd (h1.1 _ hx) (hna _)
      · exact e
    · rcases List.mem_cons.1 ((h x).2 (by simp [hx])) with e | e
      · subst e; exact absurd (h2.1 _ hx) (hna _)
      · exact e
theorem filter_tw {α : Type} {p : α → Bool} : ∀ {l : List α}, Downs p l → l.filter p = l.takeWhile p
  | [], _ => rfl
  | x :: xs, h => by
    by_cases hx : p x = true
    · rw [List.filter_cons, if_pos hx, List.takeWhile_cons, if_pos hx, filter_tw (l := xs) fun i j a b hij ha hb hp => h (i + 1) (j + 1) a b (by omega) (by simpa using ha) (by simpa using hb) hp]
    · rw [List.takeWhile_cons, if_neg hx, List.filter_eq_nil_iff]
      intro y hy hp
      obtain ⟨j, hj⟩ := List.getElem?_of_mem hy
      cases j with
      | zero => simp at hj; subst hj; exact hx hp
      | succ j => exact hx (h 0 (j + 1) x y (by omega) rfl hj hp)
theorem tw_mono {α : Type} {p q : α → Bool} (h : ∀ x, p x = true → q x = true) (l : List α) : (l.takeWhile p).length ≤ (l.takeWhile q).length := by
  induction l with
  | nil => simp
  | cons x xs ih =>
    rw [List.takeWhile_cons, List.takeWhile_cons]
    by_cases hx : p x = true
    · rw [if_pos hx, if_pos (h x hx)]; simp; omega
    · rw [if_neg hx]; simp
theorem pw_of_adj {α : Type} {R : α → α → Prop} (tr : ∀ {a b c}, R a b → R b c → R a c) {l : List α} (h : ∀ (i : Nat) (x y : α), l[i]? = some x → l[i + 1]? = some y → R x y) : l.Pairwise R := by
  have hall : ∀ (d i : Nat) (x y : α), l[i]? = some x → l[i + 1 + d]? = some y → R x y := by
    intro d
    induction d with
    | zero => intro i x y hx hy; exact h i x y hx hy
    | succ d ih =>
      intro i x y hx hy
      have hlt := (List.getElem?_eq_some_iff.1 hy).1
      have hz : l[i + 1 + d]? = some l[i + 1 + d] := List.getElem?_eq_getElem (by omega)
      exact tr (ih i x _ hx hz) (h (i + 1 + d) _ y hz hy)
  exact pw_of_get fun i j x y hij hx hy => hall (j - i - 1) i x y hx (by rw [show i + 1 + (j - i - 1) = j by omega]; exact hy)
abbrev M : Int := 1099511627776
theorem number_tells (a : Int) : outbox_number.f a = some (decide (1 ≤ a ∧ a ≤ M)) := by
  unfold outbox_number.f M
  split
  · congr 1; rw [decide_eq_decide]; omega
  · congr 1; symm; apply decide_eq_false; omega
theorem kinds_tells (a : Int) : outbox_kinds.f a = some (decide (1 ≤ a ∧ a ≤ 3)) := by
  unfold outbox_kinds.f
  split
  · congr 1; rw [decide_eq_decide]; omega
  · congr 1; symm; apply decide_eq_false; omega
theorem time_tells (a : Int) : outbox_time.f a = some (decide (0 ≤ a ∧ a ≤ M)) := by
  unfold outbox_time.f
  rw [number_tells, Option.bind_some]
  split
  · rename_i h; subst h; rfl
  · congr 1; rw [decide_eq_decide]; omega
def has (a b : Int) (x : S33) : Bool := x.f1 == a && x.f2 == b
theorem of_tells (x : S33) (a b : Int) : outbox_of_1.f x.f0 x.f1 x.f2 x.f3 a b = some (has a b x) := by
  unfold outbox_of_1.f has
  split
  · rename_i h; simp [h]
  · rename_i h; simp [h]
def idxI (p : S33 → Bool) (l : List S33) : Int := match l.findIdx? p with | some i => i | none => -1
theorem idxI_none {p : S33 → Bool} {l : List S33} (h : l.any p = false) : idxI p l = -1 := by
  have h2 : l.findIdx? p = none := by
    rw [List.findIdx?_eq_none_iff]
    intro x hx
    cases hp : p x with
    | false => rfl
    | true =>
      have : l.any p = true := List.any_eq_true.2 ⟨x, hx, hp⟩
      rw [h] at this; cases this
  unfold idxI; rw [h2]
theorem idxI_some {p : S33 → Bool} {l : List S33} (h : l.any p = true) : ∃ (i : Nat) (x : S33), idxI p l = i ∧ l[i]? = some x ∧ p x = true ∧ l.find? p = some x := by
  have h1 : ∃ x ∈ l, p x = true := by simpa using h
  cases h2 : l.findIdx? p with
  | none =>
    rw [List.findIdx?_eq_none_iff] at h2
    obtain ⟨x, hx, hp⟩ := h1
    rw [h2 x hx] at hp; cases hp
  | some i =>
    rw [List.findIdx?_eq_some_iff_getElem] at h2
    obtain ⟨hi, hp, hn⟩ := h2
    have h3 : l.findIdx? p = some i := List.findIdx?_eq_some_iff_getElem.2 ⟨hi, hp, hn⟩
    refine ⟨i, l[i], by unfold idxI; rw [h3], List.getElem?_eq_getElem hi, hp, ?_⟩
    rw [List.find?_eq_some_iff_getElem]
    exact ⟨hp, i, hi, rfl, fun j hj => by simpa using hn j hj⟩
theorem idxF_tells (p : S33 → Bool) (k : Nat) (F : List S33 → Nat → Option Int) (h0 : ∀ i, F [] i = some (-1)) (h1 : ∀ x xs i, F (x :: xs) i = if p x = true then some (i : Int) else F xs (i + 1)) : ∀ (xs : List S33) (i : Nat), F xs i = some (match xs.findIdx? p with | some j => ((i + j : Nat) : Int) | none => -1)
  | [], i => by rw [h0]; rfl
  | x :: xs, i => by
    rw [h1, List.findIdx?_cons]
    cases hp : p x with
    | true => rfl
    | false =>
      simp only [Bool.false_eq_true, if_false]
      rw [idxF_tells p k F h0 h1 xs (i + 1)]
      cases xs.findIdx? p with
      | none => rfl
      | some j => show some (((i + 1 + j : Nat) : Int)) = some (((i + (j + 1) : Nat) : Int)); rw [show i + 1 + j = i + (j + 1) by omega]
theorem where_tells (k : Nat) (a b : Int) (l : List S33) (hk : l.length < k) (hs : l.length < 1000000) : outbox_where_Out.f k l a b = some (idxI (has a b) l) := by
  unfold outbox_where_Out.f slices_IndexFunc_api_Out_api_Out.f
  have := slices_IndexFunc_api_Out_api_Out.r1_eq k a b l (by omega) k 0 (by omega) (by omega)
  rw [show ((0 : Nat) : Int) = 0 from rfl, List.drop_zero] at this
  rw [this, idxF_tells (has a b) k (slices_IndexFunc_api_Out_api_Out.r1 k a b l) (fun i => rfl) (fun x xs i => by rw [slices_IndexFunc_api_Out_api_Out.r1, of_tells, Option.bind_some]), Option.bind_some]
  unfold idxI
  cases l.findIdx? (has a b) <;> simp
def hasK (a : Int) (x : S33) : Bool := x.f0 == a
theorem whereK_tells (k : Nat) (a : Int) (l : List S33) (hk : l.length < k) (hs : l.length < 1000000) : outbox_where_Out_s10.f k l a = some (idxI (hasK a) l) := by
  unfold outbox_where_Out_s10.f slices_IndexFunc_api_Out_api_Out_s10.f
  have := slices_IndexFunc_api_Out_api_Out_s10.r1_eq k a l (by omega) k 0 (by omega) (by omega)
  rw [show ((0 : Nat) : Int) = 0 from rfl, List.drop_zero] at this
  rw [this, idxF_tells (hasK a) k (slices_IndexFunc_api_Out_api_Out_s10.r1 k a l) (fun i => rfl) (fun x xs i => by rw [slices_IndexFunc_api_Out_api_Out_s10.r1, outbox_Done_1.f, Option.bind_some]; rfl), Option.bind_some]
  unfold idxI
  cases l.findIdx? (hasK a) <;> simp
/-- What an outbox may be. -/
def okrow (x : S33) : Prop := (1 ≤ x.f0 ∧ x.f0 ≤ M) ∧ (1 ≤ x.f2 ∧ x.f2 ≤ M) ∧ (1 ≤ x.f1 ∧ x.f1 ≤ 3) ∧ 0 ≤ x.f3 ∧ x.f3 ≤ M
def same (y x : S33) : Prop := y.f1 = x.f1 ∧ y.f2 = x.f2
def Rt (last : Int) (l : List S33) : Prop := l.length ≤ 96 ∧ (0 ≤ last ∧ last ≤ M) ∧ (∀ x ∈ l, okrow x ∧ x.f0 ≤ last) ∧ l.Pairwise (fun y x => y.f0 < x.f0 ∧ ¬ same y x)
def Rr (l0 : List S33) (last : Int) : List S33 → Nat → Int → Prop
  | [], _, lk => l0.length ≤ 96 ∧ (0 ≤ last ∧ last ≤ M) ∧ lk ≤ last
  | x :: xs, i, lk => okrow x ∧ lk < x.f0 ∧ idxI (has x.f1 x.f2) l0 = i ∧ Rr l0 last xs (i + 1) x.f0
theorem Rr_tells (k : Nat) (last : Int) (l : List S33) (hk : l.length < k) (hs : l.length < 1000000) : ∀ (xs : List S33) (i : Nat) (lk : Int), ∃ b, outbox_Right.r1 k last l xs i lk = some b ∧ (b = true ↔ Rr l last xs i lk)
  | [], i, lk => by
    rw [outbox_Right.r1, time_tells, Option.bind_some]
    unfold Rr
    by_cases h1 : (l.length : Int) ≤ 96
    · rw [if_pos h1]
      by_cases h2 : 0 ≤ last ∧ last ≤ M
      · rw [if_pos (decide_eq_true h2)]
        exact ⟨_, rfl, by rw [decide_eq_true_eq]; exact ⟨fun h => ⟨by omega, h2, h⟩, fun h => h.2.2⟩⟩
      · rw [if_neg (by simpa using h2)]
        exact ⟨false, rfl, ⟨(fun h => by cases h), fun h => absurd h.2.1 h2⟩⟩
    · rw [if_neg h1]
      exact ⟨false, rfl, ⟨(fun h => by cases h), fun h => absurd h.1 (by omega)⟩⟩
  | x :: xs, i, lk => by
    obtain ⟨b, h1, h2⟩ := Rr_tells k last l hk hs xs (i + 1) x.f0
    have hf : ∀ (h : ¬ Rr l last (x :: xs) i lk), ∃ b, some false = some b ∧ (b = true ↔ Rr l last (x :: xs) i lk) := fun h => ⟨false, rfl, ⟨(fun h => by cases h), fun q => absurd q h⟩⟩
    rw [outbox_Right.r1, number_tells, number_tells, kinds_tells, time_tells]
    simp only [Option.bind_some, outbox_of.f]
    by_cases a1 : 1 ≤ x.f0 ∧ x.f0 ≤ M
    · rw [if_pos (decide_eq_true a1)]
      by_cases a2 : 1 ≤ x.f2 ∧ x.f2 ≤ M
      · rw [if_pos (decide_eq_true a2)]
        by_cases a3 : 1 ≤ x.f1 ∧ x.f1 ≤ 3
        · rw [if_pos (decide_eq_true a3)]
          by_cases a4 : 0 ≤ x.f3 ∧ x.f3 ≤ M
          · rw [if_pos (decide_eq_true a4)]
            by_cases a5 : x.f0 ≤ lk
            · rw [if_pos a5]
              exact hf fun h => by have := h.2.1; omega
            · rw [if_neg a5, where_tells k _ _ l hk hs, Option.bind_some]
              by_cases a6 : idxI (has x.f1 x.f2) l = i
              · rw [if_pos a6, h1]
                exact ⟨b, rfl, h2.trans ⟨fun h => ⟨⟨a1, a2, a3, a4⟩, by omega, a6, h⟩, fun h => h.2.2.2⟩⟩
              · rw [if_neg a6]
                exact hf fun h => a6 h.2.2.1
          · rw [if_neg (by simpa using a4)]
            exact hf fun h => a4 h.1.2.2.2
        · rw [if_neg (by simpa using a3)]
          exact hf fun h => a3 h.1.2.2.1
      · rw [if_neg (by simpa using a2)]
        exact hf fun h => a2 h.1.2.1
    · rw [if_neg (by simpa using a1)]
      exact hf fun h => a1 h.1.1
theorem Rr_iff (l0 : List S33) (last : Int) : ∀ (xs : List S33) (i : Nat) (lk : Int), Rr l0 last xs i lk ↔ l0.length ≤ 96 ∧ (0 ≤ last ∧ last ≤ M) ∧ lk ≤ last ∧ (∀ x ∈ xs, okrow x ∧ lk < x.f0 ∧ x.f0 ≤ last) ∧ xs.Pairwise (fun y x => y.f0 < x.f0) ∧ ∀ (j : Nat) (x : S33), xs[j]? = some x → idxI (has x.f1 x.f2) l0 = ((i + j : Nat) : Int)
  | [], i, lk => by unfold Rr; simp
  | x :: xs, i, lk => by
    unfold Rr
    rw [Rr_iff l0 last xs (i + 1) x.f0, List.pairwise_cons]
    constructor
    · rintro ⟨h1, h2, h3, h4, h5, h6, h7, h8, h9⟩
      refine ⟨h4, h5, by omega, ?_, ⟨fun y hy => (h7 y hy).2.1, h8⟩, ?_⟩
      · intro y hy
        rcases List.mem_cons.1 hy with rfl | hy
        · exact ⟨h1, h2, h6⟩
        · have := h7 y hy
          exact ⟨this.1, by omega, this.2.2⟩
      · intro j y hy
        cases j with
        | zero =>
          simp only [List.getElem?_cons_zero, Option.some.injEq] at hy
          subst hy
          exact h3
        | succ j =>
          rw [h9 j y (by simpa using hy)]
          omega
    · rintro ⟨h4, h5, h6, h7, ⟨h8, h9⟩, h10⟩
      have h1 := h7 x (by simp)
      refine ⟨h1.1, h1.2.1, h10 0 x rfl, h4, h5, h1.2.2, fun y hy => ?_, h9, fun j y hy => ?_⟩
      · exact ⟨(h7 y (by simp [hy])).1, h8 y hy, (h7 y (by simp [hy])).2.2⟩
      · have := h10 (j + 1) y (by simpa using hy)
        rw [this]
        omega
theorem has_is {y x : S33} : has x.f1 x.f2 y = true ↔ same y x := by unfold has same; simp
theorem Rr_Rt (l : List S33) (last : Int) : Rr l last l 0 0 ↔ Rt last l := by
  rw [Rr_iff]
  unfold Rt
  constructor
  · rintro ⟨h1, h2, h3, h4, h5, h6⟩
    refine ⟨h1, h2, fun x hx => ⟨(h4 x hx).1, (h4 x hx).2.2⟩, pw_of_get fun i j x y hij hx hy => ⟨pw_get h5 hij hx hy, fun hs => ?_⟩⟩
    have h7 := h6 j y hy
    obtain ⟨m, z, e1, e2, e3, _⟩ := idxI_some (p := has y.f1 y.f2) (l := l) (List.any_eq_true.2 ⟨x, List.mem_of_getElem? hx, has_is.2 hs⟩)
    have hm : m = j := by omega
    subst hm
    have h8 : l.findIdx? (has y.f1 y.f2) = some m := by
      unfold idxI at e1
      cases h9 : l.findIdx? (has y.f1 y.f2) with
      | none => rw [h9] at e1; simp only at e1; omega
      | some q => rw [h9] at e1; simp only at e1; congr 1; omega
    rw [List.findIdx?_eq_some_iff_getElem] at h8
    obtain ⟨_, _, hn⟩ := h8
    obtain ⟨hl, rfl⟩ := List.getElem?_eq_some_iff.1 hx
    exact hn i hij (has_is.2 hs)
  · rintro ⟨h1, h2, h3, h4⟩
    refine ⟨h1, h2, h2.1, fun x hx => ⟨(h3 x hx).1, by have := (h3 x hx).1.1; omega, (h3 x hx).2⟩, h4.imp fun h => h.1, fun j x hx => ?_⟩
    obtain ⟨hj, rfl⟩ := List.getElem?_eq_some_iff.1 hx
    have h8 : l.findIdx? (has l[j].f1 l[j].f2) = some j := List.findIdx?_eq_some_iff_getElem.2 ⟨hj, has_is.2 ⟨rfl, rfl⟩, fun i hi hp => (pw_get h4 hi (List.getElem?_eq_getElem (by omega)) hx).2 (has_is.1 hp)⟩
    unfold idxI
    rw [h8]
    simp
theorem right_tells (k : Nat) (last : Int) (l : List S33) (hk : l.length < k) (hs : l.length < 1000000) : ∃ b, outbox_Right.f k last l = some b ∧ (b = true ↔ Rt last l) := by
  obtain ⟨b, h1, h2⟩ := Rr_tells k last l hk hs l 0 0
  unfold outbox_Right.f
  have := outbox_Right.r1_eq k last l (by omega) k 0 0 (by omega) (by omega)
  rw [show ((0 : Nat) : Int) = 0 from rfl, List.drop_zero] at this
  exact ⟨b, this.trans h1, h2.trans (Rr_Rt l last)⟩
theorem right_is {k : Nat} {last : Int} {l : List S33} (hk : l.length < k) (hs : l.length < 1000000) (h : Rt last l) : outbox_Right.f k last l = some true := by
  obtain ⟨b, h1, h2⟩ := right_tells k last l hk hs
  rw [h1, h2.2 h]
theorem right_no {k : Nat} {last : Int} {l : List S33} (hk : l.length < k) (hs : l.length < 1000000) (h : ¬ Rt last l) : outbox_Right.f k last l = some false := by
  obtain ⟨b, h1, h2⟩ := right_tells k last l hk hs
  cases b with
  | false => exact h1
  | true => exact absurd (h2.1 rfl) h
/-- Putting. -/
def good (kind order now : Int) : Prop := (1 ≤ kind ∧ kind ≤ 3) ∧ (1 ≤ order ∧ order ≤ M) ∧ 0 ≤ now ∧ now ≤ M
instance (a b c : Int) : Decidable (good a b c) := by unfold good; exact inferInstance
def putR (last : Int) (l : List S33) (a b c : Int) : Int × List S33 × Int × Int :=
  if good a b c then (if l.any (has a b) = true then (0, [], 0, 9) else if l.length = 96 ∨ last = M then (0, [], 0, 7) else (last + 1, l ++ [⟨last + 1, a, b, c⟩], last + 1, 0)) else (0, [], 0, 1)
theorem put_tells (k : Nat) (last : Int) (l : List S33) (a b c : Int) (hk : l.length < k) (hs : l.length < 1000000) (h : Rt last l) : outbox_Put.f k last l a b c = some (putR last l a b c) := by
  have hl := h.1
  have hla := h.2.1
  have hw : last ≠ M → wrap64 (last + 1) = last + 1 := fun _ => by unfold M at hla; unfold wrap64; omega
  unfold outbox_Put.f putR
  rw [right_is hk hs h, Option.bind_some, if_pos rfl, kinds_tells, number_tells, time_tells]
  simp only [Option.bind_some, outbox_of.f]
  by_cases a1 : 1 ≤ a ∧ a ≤ 3
  · rw [if_pos (decide_eq_true a1)]
    by_cases a2 : 1 ≤ b ∧ b ≤ M
    · rw [if_pos (decide_eq_true a2)]
      by_cases a3 : 0 ≤ c ∧ c ≤ M
      · rw [if_pos (decide_eq_true a3), if_pos (show good a b c from ⟨a1, a2, a3⟩), where_tells k a b l hk hs, Option.bind_some]
        cases h4 : l.any (has a b) with
        | true =>
          obtain ⟨i, x, e, _⟩ := idxI_some h4
          rw [if_pos (by omega), if_pos rfl]
        | false =>
          rw [idxI_none h4, if_neg (show ¬ ((-1 : Int) ≥ 0) by decide), if_neg Bool.false_ne_true]
          by_cases h5 : l.length = 96
          · rw [if_pos (by omega), if_pos (.inl h5)]
          · rw [if_neg (by omega)]
            by_cases h6 : last = M
            · rw [if_pos h6, if_pos (.inr h6)]
            · rw [if_neg h6, if_neg (by rintro (h | h); exact h5 h; exact h6 h), slices_Clip_api_Out_api_Out.f, Option.bind_some, if_pos (by simp; omega), hw h6]
      · rw [if_neg (by simpa using a3), if_neg (show ¬ good a b c from fun h => a3 h.2.2)]
    · rw [if_neg (by simpa using a2), if_neg (show ¬ good a b c from fun h => a2 h.2.1)]
  · rw [if_neg (by simpa using a1), if_neg (show ¬ good a b c from fun h => a1 h.1)]
theorem put_bad (k : Nat) (last : Int) (l : List S33) (a b c : Int) (hk : l.length < k) (hs : l.length < 1000000) (h : ¬ Rt last l) : outbox_Put.f k last l a b c = some (0, [], 0, 1) := by
  unfold outbox_Put.f
  rw [right_no hk hs h]
  rfl
/-- Doing. -/
theorem cutat_filter (key : Int) : ∀ (l : List S33), l.Pairwise (fun y x => y.f0 < x.f0) → ∀ (i : Nat) (x : S33), l[i]? = some x → x.f0 = key → l.take i ++ l.drop (i + 1) = l.filter (fun x => !hasK key x)
  | [], _, i, x, h, _ => by simp at h
  | y :: l, hp, 0, x, h, hx => by
    simp only [List.getElem?_cons_zero, Option.some.injEq] at h
    subst h
    rw [List.pairwise_cons] at hp
    rw [List.take_zero, List.nil_append, List.filter_cons, if_neg (by simp [hasK, hx])]
    simp only [Nat.zero_add, List.drop_succ_cons, List.drop_zero]
    symm
    rw [List.filter_eq_self]
    intro z hz
    have := hp.1 z hz
    simp [hasK]
    omega
  | y :: l, hp, i + 1, x, h, hx => by
    simp only [List.getElem?_cons_succ] at h
    rw [List.pairwise_cons] at hp
    have := hp.1 x (List.mem_of_getElem? h)
    rw [List.take_succ_cons, List.cons_append, List.drop_succ_cons, cutat_filter key l hp.2 i x h hx, List.filter_cons, if_pos (by simp [hasK]; omega)]
def without (key : Int) (l : List S33) : List S33 := l.filter (fun x => !hasK key x)
def doneR (last : Int) (l : List S33) (key : Int) : Int × List S33 × Int × Int × Int × Int × Int :=
  match l.find? (hasK key) with
  | some x => (last, without key l, x.f0, x.f1, x.f2, x.f3, 0)
  | none => (0, [], 0, 0, 0, 0, 8)
theorem done_tells (k : Nat) (last : Int) (l : List S33) (key : Int) (hk : l.length < k) (hs : l.length < 1000000) (h : Rt last l) : outbox_Done.f k last l key = some (doneR last l key) := by
  have hl := h.1
  unfold outbox_Done.f doneR
  rw [right_is hk hs h, Option.bind_some, if_pos rfl, whereK_tells k key l hk hs, Option.bind_some]
  cases h4 : l.any (hasK key) with
  | false =>
    have h5 : l.find? (hasK key) = none := by
      rw [List.find?_eq_none]
      intro x hx hp
      have : l.any (hasK key) = true := List.any_eq_true.2 ⟨x, hx, hp⟩
      rw [h4] at this; cases this
    rw [idxI_none h4, if_pos (by omega), h5]
  | true =>
    obtain ⟨i, x, e, h5, h6, h7⟩ := idxI_some h4
    have hi := (List.getElem?_eq_some_iff.1 h5).1
    rw [e, if_neg (by omega), if_pos (by omega), Int.toNat_natCast, h5, h7, Option.bind_some, slices_Clone_api_Out_api_Out.f, if_pos (by omega), Option.bind_some, slices_Delete_api_Out_api_Out.f, show wrap64 ((i : Int) + 1) = ((i + 1 : Nat) : Int) by unfold wrap64; omega, if_pos ⟨by omega, by omega, by omega⟩, Option.bind_some]
    have := cutat_filter key l (h.2.2.2.imp fun h => h.1) i x h5 (by simpa [hasK] using h6)
    simp only [Int.toNat_natCast, this, without]
theorem done_bad (k : Nat) (last : Int) (l : List S33) (key : Int) (hk : l.length < k) (hs : l.length < 1000000) (h : ¬ Rt last l) : outbox_Done.f k last l key = some (0, [], 0, 0, 0, 0, 1) := by
  unfold outbox_Done.f
  rw [right_no hk hs h]
  rfl
/-- Finding. -/
def findR (l : List S33) (a b : Int) : Int × Int × Int × Int × Int :=
  match l.find? (has a b) with
  | some x => (x.f0, x.f1, x.f2, x.f3, 0)
  | none => (0, 0, 0, 0, 8)
/-- Telling. -/
def later (now : Int) : Int := if M < now + 10 then M else now + 10
def toldOf (now : Int) (l : List S33) : List S33 := l.filter (fun x => decide (x.f3 ≤ now))
def bump (now : Int) (x : S33) : S33 := if x.f3 ≤ now then ⟨x.f0, x.f1, x.f2, later now⟩ else x
theorem tell_tells (k : Nat) (last : Int) (l : List S33) (now : Int) (hk : l.length < k) (hs : l.length < 1000000) (h : Rt last l) : outbox_Tell.f k last l now = some (if 0 ≤ now ∧ now ≤ M then (last, l.map (bump now), toldOf now l, 0) else (0, [], [], 1)) := by
  have hl := h.1
  unfold outbox_Tell.f
  rw [right_is hk hs h, Option.bind_some, if_pos rfl, time_tells, Option.bind_some]
  by_cases hn : 0 ≤ now ∧ now ≤ M
  · rw [if_pos (decide_eq_true hn), if_pos hn, slices_Clone_api_Out_api_Out.f, if_pos (by omega), Option.bind_some, outbox_due.f, Option.bind_some]
    simp only
    have hlat : mn (wrap64 (now + 10)) 1099511627776 = later now := by
      unfold M at hn
      rw [show wrap64 (now + 10) = now + 10 by unfold wrap64; omega]
      rfl
    have key : ∀ (xs : List S33) (i : Nat) (t : List S33), l.drop i = xs → t.length ≤ i → i ≤ l.length → outbox_Tell.r0 k last now l now xs i t ((l.take i).map (bump now) ++ l.drop i) = some (last, l.map (bump now), t ++ toldOf now xs, 0) := by
      intro xs
      induction xs with
      | nil =>
        intro i t hd ht hi
        have h1 := drop_nil_is hd
        rw [outbox_Tell.r0, hd, List.append_nil, List.take_of_length_le h1]
        simp [toldOf]
      | cons x xs ih =>
        intro i t hd ht hi
        obtain ⟨h1, h2, h3⟩ := drop_cons_is hd
        have h4 : ((l.take i).map (bump now) ++ l.drop i)[i]? = some x := by
          rw [List.getElem?_append_right (by simp; omega), hd]
          simp [Nat.min_eq_left (Nat.le_of_lt h1)]
        have h5 : ∀ y : S33, ((l.take i).map (bump now) ++ l.drop i).set i y = (l.take i).map (bump now) ++ y :: xs := by
          intro y
          have e : ((l.take i).map (bump now)).length = i := by simp; omega
          rw [List.set_append_right _ _ (by omega), e, Nat.sub_self, hd, List.set_cons_zero]
        have h6 : (l.take (i + 1)).map (bump now) = (l.take i).map (bump now) ++ [bump now x] := by
          rw [List.take_add_one, h2]
          simp
        rw [outbox_Tell.r0]
        by_cases hx : x.f3 ≤ now
        · rw [if_pos hx, if_pos (by simp; omega), Int.toNat_natCast, h4, Option.bind_some, hlat]
          have := ih (i + 1) (t ++ [x]) h3 (by simp; omega) (by omega)
          rw [h6, h3] at this
          rw [h5]
          simp only [List.append_assoc, List.cons_append, List.nil_append] at this
          rw [show bump now x = ⟨x.f0, x.f1, x.f2, later now⟩ by unfold bump; rw [if_pos hx]] at this
          rw [this]
          simp [toldOf, hx]
        · rw [if_neg hx]
          have := ih (i + 1) t h3 (by omega) (by omega)
          rw [h6, h3] at this
          simp only [List.append_assoc, List.cons_append, List.nil_append] at this
          rw [show bump now x = x by unfold bump; rw [if_neg hx]] at this
          rw [hd, this]
          simp [toldOf, hx]
    have := outbox_Tell.r0_eq k last now l now (by omega) k 0 [] l (by omega) (by omega)
    rw [show ((0 : Nat) : Int) = 0 from rfl, List.drop_zero] at this
    rw [this]
    have h7 := key l 0 [] rfl (by simp) (by omega)
    simpa using h7
  · rw [if_neg (by simpa using hn), if_neg hn]
theorem tell_bad (k : Nat) (last : Int) (l : List S33) (now : Int) (hk : l.length < k) (hs : l.length < 1000000) (h : ¬ Rt last l) : outbox_Tell.f k last l now = some (0, [], [], 1) := by
  unfold outbox_Tell.f
  rw [right_no hk hs h]
  rfl
theorem find_any {p : S33 → Bool} {l : List S33} : (∃ x, l.find? p = some x ∧ x ∈ l ∧ p x = true ∧ l.any p = true) ∨ (l.find? p = none ∧ l.any p = false) := by
  cases h : l.find? p with
  | some x =>
    have h1 := List.mem_of_find?_eq_some h
    have h2 := List.find?_some h
    exact .inl ⟨x, rfl, h1, h2, List.any_eq_true.2 ⟨x, h1, h2⟩⟩
  | none =>
    refine .inr ⟨rfl, ?_⟩
    rw [List.find?_eq_none] at h
    rw [List.any_eq_false]
    exact fun x hx => h x hx
/-! ### lists of pairs -/
theorem mget_mset {K V : Type} [BEq K] [LawfulBEq K] [DecidableEq K] (k k' : K) (v d : V) : ∀ m : List (K × V), mget (mset m k v) k' d = if k' = k then v else mget m k' d
  | [] => by
    rw [mset]
    show (if (k' == k) = true then v else mget [] k' d) = if k' = k then v else mget [] k' d
    by_cases h : k' = k
    · rw [if_pos h, if_pos (beq_iff_eq.2 h)]
    · rw [if_neg h, if_neg (fun q => h (eq_of_beq q))]
  | e :: m => by
    rw [mset]
    by_cases h : (k == e.1) = true
    · have h2 : k = e.1 := eq_of_beq h
      rw [if_pos h, mget, mget]
      simp only [beq_iff_eq]
      by_cases h3 : k' = k
      · rw [if_pos h3, if_pos h3]
      · rw [if_neg h3, if_neg h3, if_neg (by rw [← h2]; exact h3)]
    · have h2 : k ≠ e.1 := fun q => h (beq_iff_eq.2 q)
      rw [if_neg h, mget, mget, mget_mset k k' v d m]
      simp only [beq_iff_eq]
      by_cases h3 : k' = e.1
      · rw [if_pos h3, if_pos h3, if_neg (by rw [h3]; exact fun q => h2 q.symm)]
      · rw [if_neg h3, if_neg h3]
theorem mem_keys_mset {K V : Type} [BEq K] [LawfulBEq K] (k : K) (v : V) (z : K) : ∀ m : List (K × V), z ∈ (mset m k v).map (·.1) ↔ z = k ∨ z ∈ m.map (·.1)
  | [] => by simp [mset]
  | e :: m => by
    rw [mset]
    by_cases h : (k == e.1) = true
    · have h2 : k = e.1 := eq_of_beq h
      rw [if_pos h]
      simp only [List.map_cons, List.mem_cons, ← h2]
      grind
    · rw [if_neg h]
      simp only [List.map_cons, List.mem_cons, mem_keys_mset k v z m]
      grind
theorem keys_mset {K V : Type} [BEq K] [LawfulBEq K] (k : K) (v : V) : ∀ m : List (K × V), (m.map (·.1)).Nodup → ((mset m k v).map (·.1)).Nodup
  | [], _ => by simp [mset]
  | e :: m, h => by
    rw [List.map_cons, List.nodup_cons] at h
    rw [mset]
    by_cases hb : (k == e.1) = true
    · have h2 : k = e.1 := eq_of_beq hb
      rw [if_pos hb, List.map_cons, List.nodup_cons]
      exact ⟨by simpa [h2] using h.1, h.2⟩
    · have h2 : k ≠ e.1 := fun q => hb (beq_iff_eq.2 q)
      rw [if_neg hb, List.map_cons, List.nodup_cons]
      refine ⟨fun h3 => ?_, keys_mset k v m h.2⟩
      rcases (mem_keys_mset k v e.1 m).1 h3 with h4 | h4
      · exact h2 h4.symm
      · exact h.1 h4
theorem mget_mem {K V : Type} [BEq K] [LawfulBEq K] (d : V) : ∀ (m : List (K × V)), (m.map (·.1)).Nodup → ∀ e ∈ m, mget m e.1 d = e.2
  | [], _, e, h => by cases h
  | e' :: m, hn, e, h => by
    rw [List.map_cons, List.nodup_cons] at hn
    rw [mget]
    rcases List.mem_cons.1 h with rfl | h
    · rw [if_pos (by simp)]
    · have : e.1 ≠ e'.1 := fun q => hn.1 (by rw [← q]; exact List.mem_map_of_mem h)
      rw [if_neg (by simpa using this), mget_mem d m hn.2 e h]
theorem mget_none {K V : Type} [BEq K] [LawfulBEq K] (d : V) (k : K) : ∀ (m : List (K × V)), k ∉ m.map (·.1) → mget m k d = d
  | [], _ => rfl
  | e :: m, h => by
    rw [List.map_cons, List.mem_cons, not_or] at h
    rw [mget, if_neg (by simpa using h.1), mget_none d k m h.2]
theorem len_mset {K V : Type} [BEq K] [LawfulBEq K] [DecidableEq K] (k : K) (v : V) : ∀ m : List (K × V), (mset m k v).length = if k ∈ m.map (·.1) then m.length else m.length + 1
  | [] => by simp [mset]
  | e :: m => by
    rw [mset]
    by_cases h : (k == e.1) = true
    · have h2 : k = e.1 := eq_of_beq h
      rw [if_pos h, if_pos (by simp [h2])]
      rfl
    · have h2 : k ≠ e.1 := fun q => h (beq_iff_eq.2 q)
      rw [if_neg h, List.length_cons, len_mset k v m, List.map_cons, List.length_cons]
      by_cases h3 : k ∈ m.map (·.1)
      · rw [if_pos h3, if_pos (List.mem_cons_of_mem _ h3)]
      · rw [if_neg h3, if_neg (by rw [List.mem_cons, not_or]; exact ⟨h2, h3⟩)]
theorem sub_mdel {K V : Type} [BEq K] (k : K) : ∀ m : List (K × V), (mdel m k).Sublist m
  | [] => List.Sublist.refl _
  | e :: m => by
    rw [mdel]
    split
    · exact List.sublist_cons_self _ _
    · exact (sub_mdel k m).cons_cons _
theorem keys_mdel {K V : Type} [BEq K] (k : K) (m : List (K × V)) (h : (m.map (·.1)).Nodup) : ((mdel m k).map (·.1)).Nodup := h.sublist ((sub_mdel k m).map _)
theorem mem_keys_mdel {K V : Type} [BEq K] [LawfulBEq K] (k z : K) : ∀ m : List (K × V), (m.map (·.1)).Nodup → (z ∈ (mdel m k).map (·.1) ↔ z ≠ k ∧ z ∈ m.map (·.1))
  | [], _ => by simp [mdel]
  | e :: m, hn => by
    rw [List.map_cons, List.nodup_cons] at hn
    rw [mdel]
    by_cases h : (k == e.1) = true
    · have h2 : k = e.1 := eq_of_beq h
      rw [if_pos h, List.map_cons, List.mem_cons]
      constructor
      · intro h3
        exact ⟨fun q => hn.1 (by rw [← h2, ← q]; exact h3), .inr h3⟩
      · rintro ⟨h3, h4 | h4⟩
        · exact absurd (h4.trans h2.symm) h3
        · exact h4
    · have h2 : k ≠ e.1 := fun q => h (beq_iff_eq.2 q)
      rw [if_neg h, List.map_cons, List.mem_cons, mem_keys_mdel k z m hn.2, List.map_cons, List.mem_cons]
      constructor
      · rintro (h3 | h3)
        · exact ⟨fun q => h2 (q.symm.trans h3), .inl h3⟩
        · exact ⟨h3.1, .inr h3.2⟩
      · rintro ⟨h3, h4 | h4⟩
        · exact .inl h4
        · exact .inr ⟨h3, h4⟩
theorem mget_mdel {K V : Type} [BEq K] [LawfulBEq K] [DecidableEq K] (k k' : K) (d : V) : ∀ m : List (K × V), (m.map (·.1)).Nodup → mget (mdel m k) k' d = if k' = k then d else mget m k' d
  | [], _ => by
    rw [mdel, mget]
    simp
  | e :: m, hn => by
    rw [List.map_cons, List.nodup_cons] at hn
    rw [mdel]
    by_cases h : (k == e.1) = true
    · have h2 : k = e.1 := eq_of_beq h
      rw [if_pos h]
      by_cases h3 : k' = k
      · rw [if_pos h3, mget_none d k' m (by rw [h3, h2]; exact hn.1)]
      · rw [if_neg h3, mget, if_neg (by rw [← h2]; simpa using h3)]
    · have h2 : k ≠ e.1 := fun q => h (beq_iff_eq.2 q)
      rw [if_neg h, mget, mget, mget_mdel k k' d m hn.2]
      by_cases h3 : (k' == e.1) = true
      · have h4 : k' = e.1 := eq_of_beq h3
        rw [if_pos h3, if_pos h3, if_neg (by rw [h4]; exact fun q => h2 q.symm)]
      · rw [if_neg h3, if_neg h3]
theorem len_mdel {K V : Type} [BEq K] [LawfulBEq K] (k : K) : ∀ m : List (K × V), k ∈ m.map (·.1) → (mdel m k).length + 1 = m.length
  | [], h => by simp at h
  | e :: m, h => by
    rw [mdel]
    by_cases hb : (k == e.1) = true
    · rw [if_pos hb]
      rfl
    · have h2 : k ≠ e.1 := fun q => hb (beq_iff_eq.2 q)
      rw [List.map_cons, List.mem_cons] at h
      rcases h with h | h
      · exact absurd h h2
      · rw [if_neg hb, List.length_cons, len_mdel k m h, List.length_cons]
theorem turnI (a n : Int) (hn : 0 < n) (hb : n ≤ 1000) : 0 ≤ (wrap64 (a.tmod n + n)).tmod n ∧ (wrap64 (a.tmod n + n)).tmod n < n := by
  have h1 : a.tmod n < n := Int.tmod_lt_of_pos a hn
  have h2 : -n < a.tmod n := Int.lt_tmod_of_pos a hn
  generalize a.tmod n = q at *
  rw [w64n (by omega) (by omega)]
  exact ⟨Int.tmod_nonneg _ (by omega), Int.tmod_lt_of_pos _ hn⟩
theorem alive_tells : tarrylaw14_alive.f 200 = some true := by decide +kernel
/-- What holds as time goes on. -/
structure Ot (n : Nat) (now last : Int) (l : List S33) (told : List (Int × Int)) (op : List (Int × Bool)) : Prop where
  right : Rt last l
  time : 0 ≤ now ∧ now ≤ 20 * n
  few : l.length ≤ n ∧ last ≤ n
  due : ∀ x ∈ l, x.f3 = mget told x.f0 0 + 10
  keys : (op.map (·.1)).Nodup
  vals : ∀ e ∈ op, e.2 = true
  mem : ∀ s, s ∈ op.map (·.1) ↔ ∃ x ∈ l, x.f0 = s
theorem key_ne {last : Int} {l : List S33} (h : Rt last l) : (l.map (·.f0)).Nodup := by
  rw [List.nodup_iff_pairwise_ne, List.pairwise_map]
  exact h.2.2.2.imp fun {a b} h e => by omega
theorem key_one {last : Int} {l : List S33} (h : Rt last l) {x y : S33} (hx : x ∈ l) (hy : y ∈ l) (e : x.f0 = y.f0) : x = y := by
  obtain ⟨i, hi⟩ := List.getElem?_of_mem hx
  obtain ⟨j, hj⟩ := List.getElem?_of_mem hy
  rcases Nat.lt_trichotomy i j with h1 | h1 | h1
  · have := (pw_get h.2.2.2 h1 hi hj).1
    omega
  · subst h1
    rw [hi] at hj
    exact Option.some.inj hj
  · have := (pw_get h.2.2.2 h1 hj hi).1
    omega
theorem Ot.len {n : Nat} {now last : Int} {l : List S33} {told : List (Int × Int)} {op : List (Int × Bool)} (h : Ot n now last l told op) : l.length = op.length := by
  have hp : (l.map (·.f0)).Perm (op.map (·.1)) := (List.perm_ext_iff_of_nodup (key_ne h.right) h.keys).2 fun s => by
    rw [h.mem, List.mem_map]
  have := hp.length_eq
  simpa using this
theorem Ot.yes {n : Nat} {now last : Int} {l : List S33} {told : List (Int × Int)} {op : List (Int × Bool)} (h : Ot n now last l told op) {x : S33} (hx : x ∈ l) : mget op x.f0 false = true := by
  obtain ⟨e, he, e2⟩ := List.mem_map.1 ((h.mem x.f0).2 ⟨x, hx, rfl⟩)
  rw [← e2, mget_mem false op h.keys e he, h.vals e he]
theorem Ot.no {n : Nat} {now last : Int} {l : List S33} {told : List (Int × Int)} {op : List (Int × Bool)} (h : Ot n now last l told op) {s : Int} (hs : ∀ x ∈ l, x.f0 ≠ s) : mget op s false = false :=
  mget_none false s op fun q => by
    obtain ⟨x, hx, e⟩ := (h.mem s).1 q
    exact hs x hx e
theorem vals_mset {op : List (Int × Bool)} (h : ∀ e ∈ op, e.2 = true) (k : Int) : ∀ e ∈ mset op k true, e.2 = true := by
  induction op with
  | nil =>
    intro e he
    rw [mset, List.mem_singleton] at he
    rw [he]
  | cons a op ih =>
    intro e he
    rw [mset] at he
    split at he
    · rcases List.mem_cons.1 he with rfl | he
      · rfl
      · exact h e (List.mem_cons_of_mem _ he)
    · rcases List.mem_cons.1 he with rfl | he
      · exact h e (by simp)
      · exact ih (fun e he => h e (List.mem_cons_of_mem _ he)) e he
theorem step_ok (rec : Int → Int → Int → Int → List S33 → List (Int × Int) → List (Int × Bool) → Option Bool) (n : Nat) (hn : n ≤ 60) (now : Int) (x : S28) (by_ : Int) (hb : (wrap64 (x.f4.tmod 20 + 20)).tmod 20 = by_) (now' : Int) (hw : wrap64 (now + by_) = now')
    (hr : ∀ last l told op, Ot (n + 1) now' last l told op → rec now' last ((n + 1 : Nat) : Int) last l told op = some true) (last : Int) (l : List S33) (told : List (Int × Int)) (op : List (Int × Bool)) (h : Ot (n + 1) now' last l told op) (q1 q2 : Bool) :
    tarrylaw14_OutboxTells.j71 200 rec now (n : Int) x last q1 q2 last l told op = some true := by
  have hl := h.right.1
  have hwi : wrap64 ((n : Int) + 1) = ((n + 1 : Nat) : Int) := by rw [w64n (by omega) (by omega)]; omega
  unfold tarrylaw14_OutboxTells.j71
  rw [hb, hw, hwi, right_is (by omega) (by omega) h.right, Option.bind_some, if_pos rfl, if_pos (by rw [h.len])]
  exact hr last l told op h
theorem Rt_put {last : Int} {l : List S33} {a b c : Int} (h : Rt last l) (hg : good a b c) (hn : l.any (has a b) = false) (hl : l.length ≠ 96) (hM : last ≠ M) : Rt (last + 1) (l ++ [⟨last + 1, a, b, c⟩]) := by
  obtain ⟨h1, h2, h3, h4⟩ := h
  obtain ⟨g1, g2, g3⟩ := hg
  have hMM : M = 1099511627776 := rfl
  refine ⟨by simp; omega, ⟨by omega, by omega⟩, fun x hx => ?_, ?_⟩
  · rcases List.mem_append.1 hx with hx | hx
    · have := h3 x hx
      exact ⟨this.1, by omega⟩
    · obtain rfl := List.mem_singleton.1 hx
      refine ⟨⟨⟨by simp only; omega, by simp only; omega⟩, g2, g1, g3⟩, by simp⟩
  · rw [List.pairwise_append]
    refine ⟨h4, by simp, fun y hy x hx => ?_⟩
    obtain rfl := List.mem_singleton.1 hx
    have h5 := (h3 y hy).2
    rw [List.any_eq_false] at hn
    refine ⟨by simp only; omega, fun hs => hn y hy ?_⟩
    unfold same at hs
    simp only at hs
    unfold has
    simp [hs.1, hs.2]
theorem Rt_sub {last : Int} {l l' : List S33} (h : Rt last l) (hs : l'.Sublist l) : Rt last l' := ⟨Nat.le_trans hs.length_le h.1, h.2.1, fun x hx => h.2.2.1 x (hs.subset hx), h.2.2.2.sublist hs⟩
theorem Rt_bump {last : Int} {l : List S33} {now : Int} (h : Rt last l) (hn : 0 ≤ now ∧ now ≤ M) : Rt last (l.map (bump now)) := by
  have e : ∀ x : S33, (bump now x).f0 = x.f0 ∧ (bump now x).f1 = x.f1 ∧ (bump now x).f2 = x.f2 := fun x => by
    unfold bump
    split <;> exact ⟨rfl, rfl, rfl⟩
  refine ⟨by rw [List.length_map]; exact h.1, h.2.1, fun x hx => ?_, ?_⟩
  · obtain ⟨y, hy, rfl⟩ := List.mem_map.1 hx
    obtain ⟨e0, e1, e2⟩ := e y
    obtain ⟨⟨o1, o2, o3, o4, o5⟩, o6⟩ := h.2.2.1 y hy
    refine ⟨⟨by rw [e0]; exact o1, by rw [e2]; exact o2, by rw [e1]; exact o3, ?_, ?_⟩, by rw [e0]; exact o6⟩
    · unfold bump
      split
      · simp only [later]
        split <;> omega
      · exact o4
    · unfold bump
      split
      · simp only [later]
        split <;> omega
      · exact o5
  · rw [List.pairwise_map]
    refine h.2.2.2.imp fun {a b} hab => ?_
    obtain ⟨a0, a1, a2⟩ := e a
    obtain ⟨b0, b1, b2⟩ := e b
    unfold same at *
    rw [a0, a1, a2, b0, b1, b2]
    exact hab
theorem act_ok (rec : Int → Int → Int → Int → List S33 → List (Int × Int) → List (Int × Bool) → Option Bool) (n : Nat) (hn : n ≤ 60) (now : Int) (x : S28) (by_ : Int) (hb : (wrap64 (x.f4.tmod 20 + 20)).tmod 20 = by_) (hb2 : 0 ≤ by_ ∧ by_ ≤ 19) (now' : Int) (hw : wrap64 (now + by_) = now') (hnow : now' = now + by_)
    (hr : ∀ last l told op, Ot (n + 1) now' last l told op → rec now' last ((n + 1 : Nat) : Int) last l told op = some true) (last : Int) (l : List S33) (told : List (Int × Int)) (op : List (Int × Bool)) (h : Ot n now last l told op) (kind : Int) (a b : Int) (ha : 1 ≤ a ∧ a ≤ 3) (hbb : 1 ≤ b ∧ b ≤ 5) :
    (if kind = 0 then ((outbox_Put.f 200 last l a b now').bind fun z => (if z.2.2.2 = 0 then (if z.2.2.1 ≤ last then none else (tarrylaw14_OutboxTells.j71 200 rec now (n : Int) x z.2.2.1 true true z.1 z.2.1 (mset told z.2.2.1 (wrap64 (now' - 10))) (mset op z.2.2.1 true))) else (if z.2.2.2 = 9 then (rec now' last ((n + 1 : Nat) : Int) last l told op) else none)))
      else (if kind = 1 then ((outbox_Done.f 200 last l x.f3).bind fun z => (if (z.2.2.2.2.2.2 == 0) = (mget op x.f3 false) then (if z.2.2.2.2.2.2 = 0 then (if z.2.2.1 = x.f3 then (tarrylaw14_OutboxTells.j71 200 rec now (n : Int) x last false false z.1 z.2.1 told (mdel op x.f3)) else none) else (tarrylaw14_OutboxTells.j71 200 rec now (n : Int) x last false false last l told op)) else none))
      else ((outbox_Tell.f 200 last l now').bind fun z => (if z.2.2.2 = 0 then (tarrylaw14_OutboxTells.l73 200 rec now last (n : Int) op z.2.1 z.2.2.1 z.1 x 200 0 ([] : List (Int × Bool)) told) else none)))) = some true := by
  have hMM : M = 1099511627776 := rfl
  have hl96 := h.right.1
  have ht := h.time
  have hf := h.few
  have go := fun last l told op q1 q2 h => step_ok rec n hn now x by_ hb now' hw hr last l told op h q1 q2
  have base : Ot (n + 1) now' last l told op := ⟨h.right, ⟨by omega, by omega⟩, ⟨by omega, by omega⟩, h.due, h.keys, h.vals, h.mem⟩
  by_cases k0 : kind = 0
  · rw [if_pos k0, put_tells 200 last l a b now' (by omega) (by omega) h.right, Option.bind_some]
    have hg : good a b now' := ⟨ha, ⟨hbb.1, by omega⟩, by omega, by omega⟩
    unfold putR
    rw [if_pos hg]
    cases hany : l.any (has a b) with
    | true =>
      rw [if_pos rfl]
      simp only
      rw [if_neg (by decide), if_pos True.intro]
      exact hr last l told op base
    | false =>
      rw [if_neg (show ¬ (false = true) by simp), if_neg (show ¬ (l.length = 96 ∨ last = M) by omega)]
      simp only
      rw [if_pos True.intro, if_neg (by omega)]
      have hR := Rt_put h.right hg hany (by omega) (by omega)
      have hne : ∀ y ∈ l, y.f0 ≠ last + 1 := fun y hy => by have := (h.right.2.2.1 y hy).2; omega
      refine go (last + 1) _ _ _ true true ⟨hR, ⟨by omega, by omega⟩, ⟨by simp; omega, by omega⟩, fun y hy => ?_, keys_mset _ _ _ h.keys, vals_mset h.vals _, fun s => ?_⟩
      · rcases List.mem_append.1 hy with hy | hy
        · rw [mget_mset, if_neg (hne y hy)]
          exact h.due y hy
        · obtain rfl := List.mem_singleton.1 hy
          simp only
          rw [mget_mset, if_pos rfl, w64n (by omega) (by omega)]
          omega
      · rw [mem_keys_mset, h.mem]
        constructor
        · rintro (rfl | ⟨y, hy, e⟩)
          · exact ⟨_, List.mem_append_right _ (List.mem_singleton.2 rfl), rfl⟩
          · exact ⟨y, List.mem_append_left _ hy, e⟩
        · rintro ⟨y, hy, e⟩
          rcases List.mem_append.1 hy with hy | hy
          · exact .inr ⟨y, hy, e⟩
          · obtain rfl := List.mem_singleton.1 hy
            exact .inl e.symm
  rw [if_neg k0]
  by_cases k1 : kind = 1
  · rw [if_pos k1, done_tells 200 last l x.f3 (by omega) (by omega) h.right, Option.bind_some]
    rcases find_any (p := hasK x.f3) (l := l) with ⟨y, e1, e2, e3, e4⟩ | ⟨e1, e2⟩
    · have hy : y.f0 = x.f3 := by simpa [hasK] using e3
      have hop : mget op x.f3 false = true := by rw [← hy]; exact h.yes e2
      unfold doneR
      rw [e1]
      dsimp only
      rw [if_pos (by rw [hop]; rfl), if_pos rfl, if_pos hy]
      refine go last _ _ _ false false ⟨Rt_sub h.right List.filter_sublist, ⟨by omega, by omega⟩, ⟨?_, by omega⟩, fun z hz => h.due z (List.mem_filter.1 hz).1, keys_mdel _ _ h.keys, fun e he => h.vals e ((sub_mdel _ _).subset he), fun s => ?_⟩
      · have : (without x.f3 l).length ≤ l.length := List.length_filter_le _ _
        omega
      · rw [mem_keys_mdel _ _ _ h.keys, h.mem]
        unfold without
        constructor
        · rintro ⟨hne, z, hz, e⟩
          refine ⟨z, List.mem_filter.2 ⟨hz, ?_⟩, e⟩
          simp only [hasK, Bool.not_eq_true', beq_eq_false_iff_ne]
          rw [e]
          exact hne
        · rintro ⟨z, hz, e⟩
          obtain ⟨hz1, hz2⟩ := List.mem_filter.1 hz
          simp only [hasK, Bool.not_eq_true', beq_eq_false_iff_ne] at hz2
          exact ⟨by rw [← e]; exact hz2, z, hz1, e⟩
    · have hno : ∀ y ∈ l, y.f0 ≠ x.f3 := fun y hy q => by
        rw [List.any_eq_false] at e2
        exact e2 y hy (by simpa [hasK] using q)
      unfold doneR
      rw [e1]
      dsimp only
      rw [if_pos (by rw [h.no hno]; rfl), if_neg (by decide)]
      exact go last l told op false false base
  rw [if_neg k1, tell_tells 200 last l now' (by omega) (by omega) h.right, if_pos ⟨by omega, by omega⟩, Option.bind_some]
  simp only
  rw [if_pos True.intro]
  have hsub : (toldOf now' l).Sublist l := List.filter_sublist
  have htl : (toldOf now' l).length ≤ l.length := hsub.length_le
  have hRt := Rt_sub h.right hsub
  have hnodup := key_ne hRt
  have key : ∀ (d m i : Nat) (seen : List (Int × Bool)) (tl : List (Int × Int)), i + d = (toldOf now' l).length → d < m → (∀ s, mget seen s false = decide (∃ y ∈ (toldOf now' l).take i, y.f0 = s)) → (∀ s, mget tl s 0 = if (∃ y ∈ (toldOf now' l).take i, y.f0 = s) then now' else mget told s 0) →
      tarrylaw14_OutboxTells.l73 200 rec now last (n : Int) op (l.map (bump now')) (toldOf now' l) last x m (i : Int) seen tl = some true := by
    intro d
    induction d with
    | zero =>
      intro m i seen tl hi hm hs htl2
      obtain ⟨m, rfl⟩ : ∃ q, m = q + 1 := ⟨m - 1, by omega⟩
      rw [List.take_of_length_le (by omega)] at hs htl2
      have hall : (op.all fun z => (tarrylaw14_OutboxTells.b77 200 now seen tl x z.1 z.2).isSome) = true := by
        rw [List.all_eq_true]
        intro z hz
        obtain ⟨y, hy, e⟩ := (h.mem z.1).1 (List.mem_map_of_mem hz)
        unfold tarrylaw14_OutboxTells.b77
        rw [hb, hw, hs z.1]
        by_cases hin : ∃ y ∈ toldOf now' l, y.f0 = z.1
        · rw [if_pos (decide_eq_true hin)]
          rfl
        · rw [if_neg (by simpa using hin), htl2 z.1, if_neg hin]
          have hd := h.due y hy
          obtain ⟨-, -, -, o4, o5⟩ := (h.right.2.2.1 y hy).1
          have hlate : ¬ y.f3 ≤ now' := fun q => hin ⟨y, List.mem_filter.2 ⟨hy, decide_eq_true q⟩, e⟩
          rw [← e, w64n (by omega) (by omega), if_neg (by omega)]
          rfl
      rw [tarrylaw14_OutboxTells.l73, if_neg (by omega), if_pos hall]
      have hbf : ∀ y : S33, (bump now' y).f0 = y.f0 := fun y => by unfold bump; split <;> rfl
      refine go last _ _ _ false false ⟨Rt_bump h.right ⟨by omega, by omega⟩, ⟨by omega, by omega⟩, ⟨by rw [List.length_map]; omega, by omega⟩, fun y hy => ?_, h.keys, h.vals, fun s => ?_⟩
      · obtain ⟨z, hz, rfl⟩ := List.mem_map.1 hy
        rw [hbf, htl2]
        by_cases hz2 : z.f3 ≤ now'
        · rw [if_pos ⟨z, List.mem_filter.2 ⟨hz, decide_eq_true hz2⟩, rfl⟩]
          unfold bump later
          rw [if_pos hz2, if_neg (by omega)]
        · have : ¬ ∃ y ∈ toldOf now' l, y.f0 = z.f0 := by
            rintro ⟨y, hy2, e⟩
            obtain ⟨hy3, hy4⟩ := List.mem_filter.1 hy2
            have := key_one h.right hy3 hz e
            subst this
            exact hz2 (of_decide_eq_true hy4)
          rw [if_neg this]
          unfold bump
          rw [if_neg hz2]
          exact h.due z hz
      · rw [h.mem]
        constructor
        · rintro ⟨y, hy, e⟩
          exact ⟨bump now' y, List.mem_map_of_mem hy, by rw [hbf]; exact e⟩
        · rintro ⟨y, hy, e⟩
          obtain ⟨z, hz, rfl⟩ := List.mem_map.1 hy
          exact ⟨z, hz, by rw [← hbf]; exact e⟩
    | succ d ih =>
      intro m i seen tl hi hm hs htl2
      obtain ⟨m, rfl⟩ : ∃ q, m = q + 1 := ⟨m - 1, by omega⟩
      have hlt : i < (toldOf now' l).length := by omega
      have hltI : (i : Int) < ((toldOf now' l).length : Int) := Int.ofNat_lt.2 hlt
      have hi0 : 0 ≤ (i : Int) := Int.natCast_nonneg i
      have hx := List.getElem?_eq_getElem hlt
      generalize (toldOf now' l)[i] = y at hx
      have hym := List.mem_of_getElem? hx
      obtain ⟨hyl, hyd⟩ := List.mem_filter.1 hym
      have hyd := of_decide_eq_true hyd
      have hdue := h.due y hyl
      obtain ⟨-, -, -, o4, o5⟩ := (h.right.2.2.1 y hyl).1
      have hnot : ¬ ∃ z ∈ (toldOf now' l).take i, z.f0 = y.f0 := by
        rintro ⟨z, hz, e⟩
        obtain ⟨j, hj⟩ := List.getElem?_of_mem hz
        rw [List.getElem?_take] at hj
        split at hj
        · rename_i hji
          have := (pw_get hRt.2.2.2 hji hj hx).1
          omega
        · cases hj
      have hwi : wrap64 ((i : Int) + 1) = ((i + 1 : Nat) : Int) := by rw [w64n (by omega) (by omega)]; omega
      have htk : (toldOf now' l).take (i + 1) = (toldOf now' l).take i ++ [y] := by
        rw [List.take_add_one, hx]
        rfl
      have hex : ∀ s, (∃ z ∈ (toldOf now' l).take (i + 1), z.f0 = s) ↔ (s = y.f0 ∨ ∃ z ∈ (toldOf now' l).take i, z.f0 = s) := by
        intro s
        rw [htk]
        constructor
        · rintro ⟨z, hz, e⟩
          rcases List.mem_append.1 hz with hz | hz
          · exact .inr ⟨z, hz, e⟩
          · obtain rfl := List.mem_singleton.1 hz
            exact .inl e.symm
        · rintro (e | ⟨z, hz, e⟩)
          · exact ⟨y, by simp, e.symm⟩
          · exact ⟨z, List.mem_append_left _ hz, e⟩
      have hle : ¬ now' < mget told y.f0 0 + 10 := by rw [← hdue]; exact Int.not_lt.2 hyd
      have hwt : wrap64 (mget told y.f0 0 + 10) = mget told y.f0 0 + 10 := w64n (by rw [← hdue]; omega) (by rw [← hdue]; omega)
      rw [tarrylaw14_OutboxTells.l73, if_pos hltI, if_pos hi0, Int.toNat_natCast, hx, Option.bind_some, if_pos (h.yes hyl), hb, hw, htl2 y.f0, if_neg hnot, hwt, if_neg hle, hs y.f0, if_neg (by simpa using hnot), hwi]
      refine ih m (i + 1) _ _ (by omega) (by omega) (fun s => ?_) (fun s => ?_)
      · rw [mget_mset, hs s]
        by_cases e : s = y.f0
        · rw [if_pos e, decide_eq_true ((hex s).2 (.inl e))]
        · rw [if_neg e, decide_eq_decide, hex]
          exact ⟨.inr, fun q => q.elim (fun q => absurd q e) id⟩
      · rw [mget_mset, htl2 s]
        by_cases e : s = y.f0
        · rw [if_pos e, if_pos ((hex s).2 (.inl e))]
        · rw [if_neg e]
          by_cases e2 : ∃ z ∈ (toldOf now' l).take i, z.f0 = s
          · rw [if_pos e2, if_pos ((hex s).2 (.inr e2))]
          · rw [if_neg e2, if_neg (fun q => ((hex s).1 q).elim e e2)]
  exact key (toldOf now' l).length 200 0 [] told (by omega) (by omega) (fun s => by simp [mget]) (fun s => by simp)
theorem OutboxTells : tarrylaw14_OutboxTells.Pure := by
  intro l0 _
  refine ⟨200, ?_⟩
  have key : ∀ (d m i : Nat) (now last : Int) (l : List S33) (told : List (Int × Int)) (op : List (Int × Bool)), i + d = 31 → d < m → Ot i now last l told op → tarrylaw14_OutboxTells.l39 200 l0 m now last (i : Int) last l told op = some true := by
    intro d
    induction d with
    | zero =>
      intro m i now last l told op hi hm h
      obtain ⟨m, rfl⟩ : ∃ q, m = q + 1 := ⟨m - 1, by omega⟩
      rw [tarrylaw14_OutboxTells.l39]
      by_cases hl : (i : Int) < (l0.length : Int)
      · rw [if_pos hl, if_pos (by omega), Int.toNat_natCast, List.getElem?_eq_getElem (by omega), Option.bind_some, if_pos (by omega), alive_tells]
        rfl
      · rw [if_neg hl, alive_tells]
        rfl
    | succ d ih =>
      intro m i now last l told op hi hm h
      obtain ⟨m, rfl⟩ : ∃ q, m = q + 1 := ⟨m - 1, by omega⟩
      rw [tarrylaw14_OutboxTells.l39]
      by_cases hl : (i : Int) < (l0.length : Int)
      case neg =>
        rw [if_neg hl, alive_tells]
        rfl
      rw [if_pos hl, if_pos (by omega), Int.toNat_natCast, List.getElem?_eq_getElem (by omega), Option.bind_some]
      generalize l0[i]'(by omega) = x
      by_cases h30 : (i : Int) ≥ 30
      · rw [if_pos h30, alive_tells]
        rfl
      rw [if_neg h30]
      have ht := h.time
      obtain ⟨b1, b2⟩ := turnI x.f4 20 (by omega) (by omega)
      obtain ⟨a1, a2⟩ := turnI x.f1 3 (by omega) (by omega)
      obtain ⟨c1, c2⟩ := turnI x.f2 5 (by omega) (by omega)
      have hwi : wrap64 ((i : Int) + 1) = ((i + 1 : Nat) : Int) := by rw [w64n (by omega) (by omega)]; omega
      generalize hb : (wrap64 (x.f4.tmod 20 + 20)).tmod 20 = by_ at *
      generalize (wrap64 (x.f1.tmod 3 + 3)).tmod 3 = a at *
      generalize (wrap64 (x.f2.tmod 5 + 5)).tmod 5 = b at *
      have hw : wrap64 (now + by_) = now + by_ := w64n (by omega) (by omega)
      have ha : wrap64 (1 + a) = 1 + a := w64n (by omega) (by omega)
      have hbb : wrap64 (1 + b) = 1 + b := w64n (by omega) (by omega)
      rw [hw, ha, hbb, hwi]
      exact act_ok (tarrylaw14_OutboxTells.l39 200 l0 m) i (by omega) now x by_ hb (by omega) (now + by_) hw rfl (fun last l told op h => ih m (i + 1) _ _ _ _ _ (by omega) (by omega) h) last l told op h _ _ _ (by omega) (by omega)
  exact key 31 200 0 0 0 [] [] [] (by omega) (by omega) ⟨⟨by decide, by decide, by simp, List.Pairwise.nil⟩, by decide, by decide, fun x hx => (by cases hx), List.Pairwise.nil, fun e he => (by cases he), fun s => by simp⟩
end Go.Proofs.Ytapdeoioenblfaa.Pure
