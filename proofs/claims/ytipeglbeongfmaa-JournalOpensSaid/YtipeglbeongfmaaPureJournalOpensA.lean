/- JournalOpens: lemmas over the printed functions; no further condition. -/
import Derived.Test.YtipeglbeongfmaaRJournalOpens
namespace Go.Proofs.Ytipeglbeongfmaa.Pure
open Go Go.RowKit Go.Proofs.Ytipeglbeongfmaa.PJournalOpens Go.Proofs.YtipeglbeongfmaaV
set_option linter.unusedSimpArgs false
set_option linter.unusedVariables false
theorem take_drop0 {α : Type} (l : List α) (i : Nat) : (l.take i).drop 0 = l.take i := rfl
theorem w64n {n : Int} (h1 : -9000000000000000000 ≤ n) (h2 : n ≤ 9000000000000000000) : wrap64 n = n := by unfold wrap64; omega
/-- A binary search's middle. -/
theorem mid_is {i j : Nat} (hi : i ≤ 1000000) (hj : j ≤ 1000000) : wrap64 ((IntKind.u64.wrap (wrap64 ((i : Int) + (j : Int)))).fdiv (2 ^ min (1 : Int).toNat IntKind.u64.bits)) = (((i + j) / 2 : Nat) : Int) := by
  have e1 : wrap64 ((i : Int) + (j : Int)) = ((i + j : Nat) : Int) := by unfold wrap64; omega
  have e2 : IntKind.u64.wrap ((i + j : Nat) : Int) = ((i + j : Nat) : Int) := by
    have h : IntKind.u64.wrap ((i + j : Nat) : Int) = ((i + j : Nat) : Int) % 18446744073709551616 := rfl
    rw [h]
    omega
  have e3 : (2 : Int) ^ min (1 : Int).toNat IntKind.u64.bits = 2 := by decide
  rw [e1, e2, e3, Int.fdiv_eq_ediv_of_nonneg _ (by decide)]
  unfold wrap64
  omega
/-- The things ahead of the first one that is not so. -/
theorem tw_len_le {α : Type} (p : α → Bool) (l : List α) : (l.takeWhile p).length ≤ l.length := by
  induction l with
  | nil => simp
  | cons x xs ih => rw [List.takeWhile_cons]; split <;> simp <;> omega
theorem tw_lt {α : Type} (p : α → Bool) : ∀ (l : List α) (i : Nat) (x : α), l[i]? = some x → i < (l.takeWhile p).length → p x = true
  | [], i, x, h, _ => by simp at h
  | y :: l, 0, x, h, hi => by
    simp only [List.getElem?_cons_zero, Option.some.injEq] at h
    subst h
    rw [List.takeWhile_cons] at hi
    by_cases hp : p y = true
    · exact hp
    · rw [if_neg hp] at hi; simp at hi
  | y :: l, i + 1, x, h, hi => by
    simp only [List.getElem?_cons_succ] at h
    rw [List.takeWhile_cons] at hi
    split at hi
    · exact tw_lt p l i x h (by simpa using hi)
    · simp at hi
theorem tw_at {α : Type} (p : α → Bool) : ∀ (l : List α) (x : α), l[(l.takeWhile p).length]? = some x → p x = false
  | [], x, h => by simp at h
  | y :: l, x, h => by
    rw [List.takeWhile_cons] at h
    by_cases hp : p y = true
    · rw [if_pos hp] at h
      simp only [List.length_cons, List.getElem?_cons_succ] at h
      exact tw_at p l x h
    · rw [if_neg hp] at h
      simp only [List.length_nil, List.getElem?_cons_zero, Option.some.injEq] at h
      subst h
      simpa using hp
/-- Where what is so stands ahead of what is not. -/
def Downs {α : Type} (p : α → Bool) (l : List α) : Prop := ∀ (i j : Nat) (x y : α), i < j → l[i]? = some x → l[j]? = some y → p y = true → p x = true
theorem tw_ge {α : Type} {p : α → Bool} {l : List α} (h : Downs p l) {i : Nat} {x : α} (hx : l[i]? = some x) (hi : (l.takeWhile p).length ≤ i) : p x = false := by
  have hl := (List.getElem?_eq_some_iff.1 hx).1
  obtain ⟨y, hn⟩ : ∃ y, l[(l.takeWhile p).length]? = some y := ⟨_, List.getElem?_eq_getElem (by omega)⟩
  have h0 := tw_at p l _ hn
  rcases Nat.lt_or_eq_of_le hi with h1 | h1
  · cases hp : p x with
    | false => rfl
    | true => rw [h _ _ _ _ h1 hn hx hp] at h0; cases h0
  · rw [h1, hx] at hn
    obtain rfl := Option.some.inj hn
    exact h0
theorem take_tw {α : Type} (p : α → Bool) (l : List α) : l.take (l.takeWhile p).length = l.takeWhile p := by
  induction l with
  | nil => rfl
  | cons x xs ih => rw [List.takeWhile_cons]; split <;> simp [ih]
theorem drop_tw {α : Type} (p : α → Bool) (l : List α) : l.drop (l.takeWhile p).length = l.dropWhile p := by
  induction l with
  | nil => rfl
  | cons x xs ih => rw [List.takeWhile_cons, List.dropWhile_cons]; split <;> simp [ih]
theorem pw_get {α : Type} {R : α → α → Prop} {l : List α} (h : l.Pairwise R) {i j : Nat} {x y : α} (hij : i < j) (hx : l[i]? = some x) (hy : l[j]? = some y) : R x y := by
  obtain ⟨h1, rfl⟩ := List.getElem?_eq_some_iff.1 hx
  obtain ⟨h2, rfl⟩ := List.getElem?_eq_some_iff.1 hy
  exact List.pairwise_iff_getElem.1 h i j h1 h2 hij
theorem pw_of_get {α : Type} {R : α → α → Prop} {l : List α} (h : ∀ (i j : Nat) (x y : α), i < j → l[i]? = some x → l[j]? = some y → R x y) : l.Pairwise R :=
  List.pairwise_iff_getElem.2 fun i j h1 h2 hij => h i j _ _ hij (List.getElem?_eq_getElem h1) (List.getElem?_eq_getElem h2)
theorem drop_cons_is {α : Type} {l : List α} {i : Nat} {x : α} {xs : List α} (h : l.drop i = x :: xs) : i < l.length ∧ l[i]? = some x ∧ l.drop (i + 1) = xs := by
  have h1 : i < l.length := by have := congrArg List.length h; simp at this; omega
  rw [List.drop_eq_getElem_cons h1] at h
  obtain ⟨h2, h3⟩ := List.cons.inj h
  exact ⟨h1, by rw [List.getElem?_eq_getElem h1, h2], h3⟩
theorem drop_nil_is {α : Type} {l : List α} {i : Nat} (h : l.drop i = []) : l.length ≤ i := by have := congrArg List.length h; simp at this; omega
theorem filter_split {α : Type} (p : α → Bool) (l : List α) : (l.filter p).length + (l.filter (fun x => !p x)).length = l.length := by
  induction l with
  | nil => rfl
  | cons x xs ih => by_cases h : p x = true <;> simp [List.filter_cons, h] <;> omega
theorem mem_tw_dw {α : Type} (p : α → Bool) (l : List α) (y : α) : (y ∈ l.takeWhile p ∨ y ∈ l.dropWhile p) ↔ y ∈ l := by
  rw [← List.mem_append, List.takeWhile_append_dropWhile]
theorem mem_tw {α : Type} {p : α → Bool} {l : List α} {y : α} (h : y ∈ l.takeWhile p) : p y = true := by
  obtain ⟨i, hi⟩ := List.getElem?_of_mem h
  have hlt := (List.getElem?_eq_some_iff.1 hi).1
  rw [← take_tw, List.getElem?_take, if_pos hlt] at hi
  exact tw_lt p l i y hi hlt
theorem mem_dw {α : Type} {p : α → Bool} {l : List α} (hd : Downs p l) {y : α} (h : y ∈ l.dropWhile p) : p y = false := by
  obtain ⟨i, hi⟩ := List.getElem?_of_mem h
  rw [← drop_tw, List.getElem?_drop] at hi
  exact tw_ge hd hi (by omega)
/-- Two rows that rise, of the same things, are the same row. -/
theorem eq_of_rise {α : Type} {R : α → α → Prop} (irr : ∀ a b, R a b → ¬ R b a) : ∀ (l l' : List α), l.Pairwise R → l'.Pairwise R → (∀ x, x ∈ l ↔ x ∈ l') → l = l'
  | [], [], _, _, _ => rfl
  | [], b :: l', _, _, h => by have := (h b).2 (by simp); cases this
  | a :: l, [], _, _, h => by have := (h a).1 (by simp); cases this
  | a :: l, b :: l', h1, h2, h => by
    rw [List.pairwise_cons] at h1 h2
    have hab : a = b := by
      rcases List.mem_cons.1 ((h a).1 (by simp)) with e | e
      · exact e
      rcases List.mem_cons.1 ((h b).2 (by simp)) with e2 | e2
      · exact e2.symm
      exact absurd (h1.1 b e2) (irr _ _ (h2.1 a e))
    subst hab
    have hna : ∀ x, R x x → False := fun x hx => irr x x hx hx
    rw [eq_of_rise irr l l' h1.2 h2.2 fun x => ⟨fun hx => ?_, fun hx => ?_⟩]
    · rcases List.mem_cons.1 ((h x).1 (by simp [hx])) with e | e
      · subst e; exact absurd (h1.1 _ hx) (hna _)
      · exact e
    · rcases List.mem_cons.1 ((h x).2 (by simp [hx])) with e | e
      · subst e; exact absurd (h2.1 _ hx) (hna _)
      · exact e
theorem filter_tw {α : Type} {p : α → Bool} : ∀ {l : List α}, Downs p l → l.filter p = l.takeWhile p
  | [], _ => rfl
  | x :: xs, h => by
    by_cases hx : p x = true
    · rw [List.filter_cons, if_pos hx, List.takeWhile_cons, if_pos hx, filter_tw (l := xs) fun i j a b hij ha hb hp => h (i + 1) (j + 1) a b (by omega) (by simpa using ha) (by simpa using hb) hp]
    · rw [List.takeWhile_cons, if_neg hx, List.filter_eq_nil_iff]
      intro y hy hp
      obtain ⟨j, hj⟩ := List.getElem?_of_mem hy
      cases j with
      | zero => simp at hj; subst hj; exact hx hp
      | succ j => exact hx (h 0 (j + 1) x y (by omega) rfl hj hp)
theorem tw_mono {α : Type} {p q : α → Bool} (h : ∀ x, p x = true → q x = true) (l : List α) : (l.takeWhile p).length ≤ (l.takeWhile q).length := by
  induction l with
  | nil => simp
  | cons x xs ih =>
    rw [List.takeWhile_cons, List.takeWhile_cons]
    by_cases hx : p x = true
    · rw [if_pos hx, if_pos (h x hx)]; simp; omega
    · rw [if_neg hx]; simp
theorem pw_of_adj {α : Type} {R : α → α → Prop} (tr : ∀ {a b c}, R a b → R b c → R a c) {l : List α} (h : ∀ (i : Nat) (x y : α), l[i]? = some x → l[i + 1]? = some y → R x y) : l.Pairwise R := by
  have hall : ∀ (d i : Nat) (x y : α), l[i]? = some x → l[i + 1 + d]? = some y → R x y := by
    intro d
    induction d with
    | zero => intro i x y hx hy; exact h i x y hx hy
    | succ d ih =>
      intro i x y hx hy
      have hlt := (List.getElem?_eq_some_iff.1 hy).1
      have hz : l[i + 1 + d]? = some l[i + 1 + d] := List.getElem?_eq_getElem (by omega)
      exact tr (ih i x _ hx hz) (h (i + 1 + d) _ y hz hy)
  exact pw_of_get fun i j x y hij hx hy => hall (j - i - 1) i x y hx (by rw [show i + 1 + (j - i - 1) = j by omega]; exact hy)
/-! ### texts as rows of numbers -/
def okB (l : List Int) : Prop := ∀ x ∈ l, 0 ≤ x ∧ x < 256
theorem okB_byI (s : ByteArray) : okB (byI s) := by
  intro x hx
  obtain ⟨b, _, rfl⟩ := List.mem_map.1 hx
  have := UInt8.toNat_lt b
  omega
theorem byI_inj {a b : ByteArray} (h : byI a = byI b) : a = b := by
  have h2 : a.data.toList = b.data.toList := by
    unfold byI at h
    have : ∀ (l m : List UInt8), l.map (fun b => (b.toNat : Int)) = m.map (fun b => (b.toNat : Int)) → l = m := by
      intro l
      induction l with
      | nil => intro m h; cases m with | nil => rfl | cons => simp at h
      | cons x xs ih =>
        intro m h
        cases m with
        | nil => simp at h
        | cons y ys =>
          simp only [List.map_cons, List.cons.injEq] at h
          rw [ih ys h.2, UInt8.toNat_inj.1 (by omega : x.toNat = y.toNat)]
    exact this _ _ h
  cases a with
  | mk a =>
    cases b with
    | mk b => simp only at h2; rw [Array.toList_inj.1 h2]
theorem byI_num {l : List Int} (h : okB l) : byI (strOfNums l) = l := by
  unfold byI strOfNums
  simp only [List.map_map]
  conv => rhs; rw [← List.map_id l]
  refine List.map_congr_left fun x hx => ?_
  have := h x hx
  simp only [Function.comp, id]
  rw [UInt8.toNat_ofNat']
  omega
theorem num_byI (s : ByteArray) : strOfNums (byI s) = s := byI_inj (byI_num (okB_byI s))
theorem byI_app (a b : ByteArray) : byI (a ++ b) = byI a ++ byI b := by
  unfold byI
  rw [ByteArray.data_append, Array.toList_append, List.map_append]
theorem byI_ext (s : ByteArray) (i j : Nat) : byI (s.extract i j) = ((byI s).take j).drop i := by
  unfold byI
  rw [ByteArray.data_extract, Array.toList_extract, ← List.map_take, ← List.map_drop]
  congr 1
  rw [List.extract_eq_take_drop, List.drop_take]
theorem byI_nil : byI (⟨#[]⟩ : ByteArray) = [] := rfl
theorem size_byI (s : ByteArray) : s.size = (byI s).length := (byI_len s).symm
theorem num_size {l : List Int} : (strOfNums l).size = l.length := by
  rw [size_byI]; unfold byI strOfNums; simp
theorem bt_get {s : ByteArray} {i : Nat} (h : i < s.size) : (byI s)[i]? = some (bt s i) := by
  unfold byI bt
  rw [List.getElem?_map, Array.getElem?_toList, Int.toNat_natCast, dif_pos h]
  have : s.data[i]? = some s.data[i] := Array.getElem?_eq_getElem h
  rw [this]
  rfl
theorem bt_of {s : ByteArray} {i : Nat} {x : Int} (h : (byI s)[i]? = some x) : bt s i = x := by
  have := (List.getElem?_eq_some_iff.1 h).1
  rw [bt_get (by rw [size_byI]; exact this)] at h
  exact Option.some.inj h
theorem app_size (a b : ByteArray) : (a ++ b).size = a.size + b.size := ByteArray.size_append
theorem ext_size (s : ByteArray) (i j : Nat) (h : j ≤ s.size) : (s.extract i j).size = j - i := by rw [ByteArray.size_extract]; omega
theorem ext_left (a b : ByteArray) : (a ++ b).extract 0 a.size = a := by
  apply byI_inj
  rw [byI_ext, byI_app, List.drop_zero, size_byI, List.take_left]
theorem ext_right (a b : ByteArray) : (a ++ b).extract a.size (a ++ b).size = b := by
  apply byI_inj
  rw [byI_ext, byI_app, app_size, size_byI a, size_byI b, ← List.length_append, List.take_length, List.drop_left]
theorem ext_split (s : ByteArray) (i : Nat) (h : i ≤ s.size) : s.extract 0 i ++ s.extract i s.size = s := by
  apply byI_inj
  rw [byI_app, byI_ext, byI_ext, List.drop_zero, size_byI s, List.take_length, List.take_append_drop]
theorem app_assoc (a b c : ByteArray) : a ++ b ++ c = a ++ (b ++ c) := by
  apply byI_inj
  rw [byI_app, byI_app, byI_app, byI_app, List.append_assoc]
theorem app_inj {a b c d : ByteArray} (h : a ++ b = c ++ d) (hs : a.size = c.size) : a = c ∧ b = d := by
  have h2 := congrArg byI h
  rw [byI_app, byI_app] at h2
  obtain ⟨h3, h4⟩ := List.append_inj h2 (by rw [← size_byI, ← size_byI, hs])
  exact ⟨byI_inj h3, byI_inj h4⟩
theorem app_nil (a : ByteArray) : a ++ (⟨#[]⟩ : ByteArray) = a := by
  apply byI_inj
  rw [byI_app, byI_nil, List.append_nil]
theorem nil_app (a : ByteArray) : (⟨#[]⟩ : ByteArray) ++ a = a := by
  apply byI_inj
  rw [byI_app, byI_nil, List.nil_append]
theorem size_zero {a : ByteArray} (h : a.size = 0) : a = ⟨#[]⟩ := by
  apply byI_inj
  rw [size_byI] at h
  rw [List.eq_nil_of_length_eq_zero h, byI_nil]
theorem ba_toList_loop (a : ByteArray) : ∀ (d i : Nat) (r : List UInt8), a.size - i = d → ByteArray.toList.loop a i r = r.reverse ++ a.data.toList.drop i := by
  intro d
  induction d with
  | zero =>
    intro i r h
    unfold ByteArray.toList.loop
    have h1 : ¬ i < a.size := by omega
    rw [if_neg h1, List.drop_eq_nil_of_le (by show a.data.toList.length ≤ i; rw [Array.length_toList]; exact Nat.le_of_not_lt h1), List.append_nil]
  | succ d ih =>
    intro i r h
    unfold ByteArray.toList.loop
    have h1 : i < a.size := by omega
    have h2 : i < a.data.toList.length := by rw [Array.length_toList]; exact h1
    rw [if_pos h1, ih (i + 1) _ (by omega), List.reverse_cons, List.append_assoc, List.drop_eq_getElem_cons h2]
    have h3 : a.get! i = a.data.toList[i] := by
      show a.data[i]! = _
      rw [getElem!_pos a.data i h1]
      rfl
    rw [h3]
    rfl
theorem ba_toList (a : ByteArray) : a.toList = a.data.toList := by
  unfold ByteArray.toList
  rw [ba_toList_loop a a.size 0 [] (by omega)]
  rfl
theorem beq_is (a b : ByteArray) : (a == b) = decide (a = b) := by
  rw [beq_toListBytes, ba_toList, ba_toList, Bool.eq_iff_iff, beq_iff_eq, decide_eq_true_eq]
  refine ⟨fun h => ?_, fun h => by rw [h]⟩
  cases a with
  | mk a =>
    cases b with
    | mk b => simpa using h
theorem bt_range (s : ByteArray) (i : Int) : 0 ≤ bt s i ∧ bt s i < 256 := by
  unfold bt
  split
  · rename_i h
    have := UInt8.toNat_lt (s[i.toNat]'h)
    omega
  · omega
theorem wf64 {a : Int} (h : (Lit.int .i64 a).wf = true) : -9223372036854775808 ≤ a ∧ a ≤ 9223372036854775807 := by
  simpa [Lit.wf, IntKind.min, IntKind.max, IntKind.signed, IntKind.bits] using h
theorem wrap64_id {a : Int} (h : -9223372036854775808 ≤ a) (h' : a ≤ 9223372036854775807) : wrap64 a = a := by
  unfold wrap64
  omega
theorem may_tells (a : Int) : pack_may.f a = some (decide (-1152921504606846976 ≤ a ∧ a ≤ 1152921504606846976)) := by
  unfold pack_may.f
  split <;> simp <;> omega
def digs : Nat → Int → List Int
  | 0, x => [x]
  | n + 1, x => if x ≥ 128 then (x % 128 + 128) :: digs n (x / 128) else [x]

theorem w8 {n : Int} (h : 0 ≤ n) (h2 : n < 256) : IntKind.u8.wrap n = n := by rw [IntKind.wrap_u8]; omega
theorem number_l1 (kk n : Nat) : ∀ (k : Nat) (x : Int) (acc : List Int), 0 ≤ x → x < 128 * 128 ^ n → x ≤ 9223372036854775807 → acc.length + n ≤ 100 →
    pack_Number.l1 kk (k + n + 1) x acc = some (strOfNums (acc ++ digs n x), 0) := by
  induction n with
  | zero =>
    intro k x acc h0 h1 h2 h3
    have h1' : x < 128 := by simpa using h1
    rw [pack_Number.l1, if_neg (by omega), if_pos (by simp; omega), w8 h0 (by omega)]
    rfl
  | succ n ih =>
    intro k x acc h0 h1 h2 h3
    rw [show k + (n + 1) + 1 = (k + n + 1) + 1 by omega, pack_Number.l1]
    by_cases h : x ≥ 128
    · have t1 : Int.tmod x 128 = x % 128 := Int.tmod_eq_emod_of_nonneg h0
      have t2 : Int.tdiv x 128 = x / 128 := Int.tdiv_eq_ediv_of_nonneg h0
      have t3 : IntKind.i64.wrap (x / 128) = x / 128 := (i64w _).trans (wrap64_id (by omega) (by omega))
      have t4 : IntKind.u8.wrap (wrap64 (x % 128 + 128)) = x % 128 + 128 := by rw [wrap64_id (by omega) (by omega), w8 (by omega) (by omega)]
      have hp : (128 : Int) ^ (n + 1) = 128 ^ n * 128 := Int.pow_succ ..
      have hn := ih k (x / 128) (acc ++ [x % 128 + 128]) (by omega) (by omega) (by omega) (by simp; omega)
      rw [if_pos h, if_pos (by simp; omega), t1, t2, t3, t4, hn, digs, if_pos h, List.append_assoc]
      rfl
    · rw [if_neg h, if_pos (by simp; omega), digs, if_neg h, w8 h0 (by omega)]
theorem number_l3 (kk n : Nat) : ∀ (k : Nat) (x : Int) (acc : List Int), 0 ≤ x → x < 128 * 128 ^ n → x ≤ 9223372036854775807 → acc.length + n ≤ 100 →
    pack_Number.l3 kk (k + n + 1) x acc = some (strOfNums (acc ++ digs n x), 0) := by
  induction n with
  | zero =>
    intro k x acc h0 h1 h2 h3
    have h1' : x < 128 := by simpa using h1
    rw [pack_Number.l3, if_neg (by omega), if_pos (by simp; omega), w8 h0 (by omega)]
    rfl
  | succ n ih =>
    intro k x acc h0 h1 h2 h3
    rw [show k + (n + 1) + 1 = (k + n + 1) + 1 by omega, pack_Number.l3]
    by_cases h : x ≥ 128
    · have t1 : Int.tmod x 128 = x % 128 := Int.tmod_eq_emod_of_nonneg h0
      have t2 : Int.tdiv x 128 = x / 128 := Int.tdiv_eq_ediv_of_nonneg h0
      have t3 : IntKind.i64.wrap (x / 128) = x / 128 := (i64w _).trans (wrap64_id (by omega) (by omega))
      have t4 : IntKind.u8.wrap (wrap64 (x % 128 + 128)) = x % 128 + 128 := by rw [wrap64_id (by omega) (by omega), w8 (by omega) (by omega)]
      have hp : (128 : Int) ^ (n + 1) = 128 ^ n * 128 := Int.pow_succ ..
      have hn := ih k (x / 128) (acc ++ [x % 128 + 128]) (by omega) (by omega) (by omega) (by simp; omega)
      rw [if_pos h, if_pos (by simp; omega), t1, t2, t3, t4, hn, digs, if_pos h, List.append_assoc]
      rfl
    · rw [if_neg h, if_pos (by simp; omega), digs, if_neg h, w8 h0 (by omega)]
def zig (a : Int) : Int := if a < 0 then -2 * a - 1 else 2 * a

theorem number_tells (k : Nat) (hk : 11 ≤ k) (a : Int) : pack_Number.f k a =
    some (if -1152921504606846976 ≤ a ∧ a ≤ 1152921504606846976 then (strOfNums (digs 8 (zig a)), 0) else ((⟨#[]⟩ : ByteArray), 1)) := by
  obtain ⟨k, rfl⟩ : ∃ q, k = q + 11 := ⟨k - 11, by omega⟩
  simp only [pack_Number.f, may_tells, Option.bind_some, decide_eq_true_eq]
  by_cases h : -1152921504606846976 ≤ a ∧ a ≤ 1152921504606846976
  · rw [if_pos h, if_pos h]
    have hz : 0 ≤ zig a ∧ zig a ≤ 2305843009213693952 := by unfold zig; split <;> omega
    by_cases h0 : a < 0
    · have e : wrap64 (wrap64 (-2 * a) - 1) = zig a := by rw [wrap64_id (a := -2 * a) (by omega) (by omega), wrap64_id (by omega) (by omega)]; unfold zig; rw [if_pos h0]
      have hl := number_l1 (k + 11) 8 (k + 2) (zig a) [] hz.1 (by omega) (by omega) (by simp)
      rw [if_pos h0, e]
      exact hl
    · have e : wrap64 (2 * a) = zig a := by rw [wrap64_id (by omega) (by omega)]; unfold zig; rw [if_neg h0]
      have hl := number_l3 (k + 11) 8 (k + 2) (zig a) [] hz.1 (by omega) (by omega) (by simp)
      rw [if_neg h0, e]
      exact hl
  · rw [if_neg h, if_neg h]
def rdv (s : ByteArray) : Nat → Int
  | 0 => 0
  | i + 1 => rdv s i + bt s i % 128 * 128 ^ i
def zag (x : Int) : Int := if x % 2 = 1 then -(x / 2) - 1 else x / 2
def rdFin (s : ByteArray) (i : Nat) : Int × ByteArray × Int :=
  if (bt s i = 0 ∧ 0 < i) ∨ ¬ (-1152921504606846976 ≤ zag (rdv s (i + 1)) ∧ zag (rdv s (i + 1)) ≤ 1152921504606846976) then (0, ⟨#[]⟩, 5) else (zag (rdv s (i + 1)), s.extract (i + 1) s.size, 0)
def rdGo (s : ByteArray) : Nat → Nat → Int × ByteArray × Int
  | 0, _ => if s.size ≥ 9 then (0, ⟨#[]⟩, 3) else (0, ⟨#[]⟩, 4)
  | f + 1, i => if i < s.size then (if bt s i ≥ 128 then rdGo s f (i + 1) else rdFin s i) else (if s.size ≥ 9 then (0, ⟨#[]⟩, 3) else (0, ⟨#[]⟩, 4))

theorem rdv_range (s : ByteArray) : ∀ i, 0 ≤ rdv s i ∧ rdv s i < 128 ^ i
  | 0 => by simp [rdv]
  | i + 1 => by
    have h := rdv_range s i
    have hp : (128 : Int) ^ (i + 1) = 128 * 128 ^ i := by rw [Int.pow_succ, Int.mul_comm]
    have hb := bt_range s i
    have h1 : 0 ≤ bt s i % 128 * 128 ^ i := Int.mul_nonneg (by omega) (by omega)
    have h2 : bt s i % 128 * 128 ^ i ≤ 127 * 128 ^ i := Int.mul_le_mul_of_nonneg_right (by omega) (by omega)
    rw [rdv, hp]
    omega
theorem pow128_le {i j : Nat} (h : i ≤ j) : (128 : Int) ^ i ≤ 128 ^ j := by
  obtain ⟨d, rfl⟩ := Nat.le.dest h
  induction d with
  | zero => exact Int.le_refl _
  | succ d ih =>
    have := ih (by omega)
    have hp : (128 : Int) ^ (i + (d + 1)) = 128 ^ (i + d) * 128 := Int.pow_succ ..
    have h0 : (0 : Int) < 128 ^ (i + d) := Int.pow_pos (by decide)
    omega
theorem rdv_small (s : ByteArray) (i : Nat) (h : i ≤ 9) : 0 ≤ rdv s i ∧ rdv s i ≤ 9223372036854775807 := by
  have h1 := rdv_range s i
  have h2 := pow128_le h
  have : (128 : Int) ^ 9 = 9223372036854775808 := by decide +kernel
  omega

theorem or_add (x c : Int) (i : Nat) (hi : i ≤ 8) (hx : 0 ≤ x) (hx2 : x < 128 ^ i) (hc : 0 ≤ c) (hc2 : c < 128) :
    Go.bits .or .i64 x (IntKind.i64.wrap (c * 2 ^ min (wrap64 (7 * (i : Int))).toNat IntKind.i64.bits)) = x + c * 128 ^ i := by
  have e1 : wrap64 (7 * (i : Int)) = 7 * i := wrap64_id (by omega) (by omega)
  have e2 : (7 * (i : Int)).toNat = 7 * i := by omega
  have e3 : (2 : Int) ^ (7 * i) = 128 ^ i := by rw [Int.pow_mul]; rfl
  have hp := pow128_le hi
  have h8 : (128 : Int) ^ 8 = 72057594037927936 := by decide +kernel
  have h0 : (0 : Int) < 128 ^ i := Int.pow_pos (by decide)
  have hcc : c * 128 ^ i ≤ 127 * 128 ^ i := Int.mul_le_mul_of_nonneg_right (by omega) (by omega)
  have hcn : 0 ≤ c * 128 ^ i := Int.mul_nonneg hc (by omega)
  have e4 : IntKind.i64.wrap (c * 2 ^ min (wrap64 (7 * (i : Int))).toNat IntKind.i64.bits) = c * 128 ^ i := by
    rw [e1, e2, show min (7 * i) IntKind.i64.bits = 7 * i from Nat.min_eq_left (by show 7 * i ≤ 64; omega), e3, IntKind.wrap_i64]
    omega
  rw [e4]
  obtain ⟨a, rfl⟩ := Int.eq_ofNat_of_zero_le hx
  obtain ⟨d, rfl⟩ := Int.eq_ofNat_of_zero_le hc
  have ha : a < 128 ^ i := by exact_mod_cast hx2
  have hq : ((d : Int) * 128 ^ i) = ((2 ^ (7 * i) * d : Nat) : Int) := by
    rw [Int.natCast_mul, Int.mul_comm]
    congr 1
    rw [← e3]
    exact (Int.natCast_pow 2 (7 * i)).symm
  have h128 : (128 : Nat) ^ i = 2 ^ (7 * i) := by rw [Nat.pow_mul]
  rw [hq]
  have ha2 : a < 2 ^ 63 := by omega
  have hd2 : 2 ^ (7 * i) * d < 2 ^ 63 := by omega
  rw [(bits_nat .i64 63 (by decide) (by intro n h h'; rw [IntKind.wrap_i64]; omega) a _ ha2 hd2).2, Nat.or_comm, ← Nat.two_pow_add_eq_or_of_lt (by rw [← h128]; exact ha) d]
  omega

theorem fin_odd (x : Int) (hx : 0 ≤ x) (hx2 : x ≤ 9223372036854775807) (h : Int.tmod x 2 = 1) : wrap64 ((wrap64 (0 - (IntKind.i64.wrap (Int.tdiv x 2)))) - 1) = zag x := by
  rw [Int.tmod_eq_emod_of_nonneg hx] at h
  rw [i64w, Int.tdiv_eq_ediv_of_nonneg hx, wrap64_id (a := x / 2) (by omega) (by omega), wrap64_id (a := 0 - (x / 2)) (by omega) (by omega), wrap64_id (a := 0 - (x / 2) - 1) (by omega) (by omega)]
  unfold zag
  rw [if_pos h]
  omega
theorem fin_even (x : Int) (hx : 0 ≤ x) (hx2 : x ≤ 9223372036854775807) (h : ¬ Int.tmod x 2 = 1) : IntKind.i64.wrap (Int.tdiv x 2) = zag x := by
  rw [Int.tmod_eq_emod_of_nonneg hx] at h
  rw [i64w, Int.tdiv_eq_ediv_of_nonneg hx, wrap64_id (a := x / 2) (by omega) (by omega)]
  unfold zag
  rw [if_neg h]
theorem read_j5 (k : Nat) (s : ByteArray) (i : Nat) (n : Int) (q : Bool) (hi : i < s.size) (h9 : i ≤ 8) : pack_ReadNumber.j5 k s (i : Int) n q
    = some (if (bt s i = 0 ∧ 0 < i) ∨ ¬ (-1152921504606846976 ≤ n ∧ n ≤ 1152921504606846976) then (0, ⟨#[]⟩, 5) else (n, s.extract (i + 1) s.size, 0)) := by
  have hb := bt_range s i
  have e : wrap64 ((i : Int) + 1) = ((i + 1 : Nat) : Int) := by rw [wrap64_id (by omega) (by omega)]; rfl
  have w1 : wrap64 (bt s i) = bt s i := wrap64_id (by omega) (by omega)
  unfold pack_ReadNumber.j5
  simp only [may_tells, Option.bind_some, e, w1, Int.toNat_natCast, decide_eq_true_eq]
  have p1 : (0 : Int) ≤ ((i + 1 : Nat) : Int) := by omega
  have p2 : ((i + 1 : Nat) : Int) ≤ (s.size : Int) := by omega
  simp only [if_pos p1, if_pos p2]
  by_cases h1 : bt s i = 0 <;> by_cases h2 : 0 < i <;> by_cases h3 : -1152921504606846976 ≤ n ∧ n ≤ 1152921504606846976 <;> simp [h1, h2, h3]
theorem read_l3 (kk : Nat) (s : ByteArray) (hs : s.size ≤ 140737488351232) (f : Nat) : ∀ (k i : Nat), i + f = 9 →
    pack_ReadNumber.l3 kk s (k + f + 1) (rdv s i) i = some (rdGo s f i) := by
  have stop : ∀ (i : Nat), ((i : Int) < mn (s.size : Int) 9 ↔ i < s.size ∧ i < 9) := fun i => by unfold mn; split <;> omega
  have hfin : ∀ m : Nat, (if (s.size : Int) ≥ 9 then (some ((0 : Int), (⟨#[]⟩ : ByteArray), (3 : Int))) else (some (0, (⟨#[]⟩ : ByteArray), 4))) = some (if s.size ≥ 9 then (0, ⟨#[]⟩, 3) else (0, ⟨#[]⟩, 4)) := fun m => by
    by_cases h : s.size ≥ 9
    · rw [if_pos h, if_pos (by omega)]
    · rw [if_neg h, if_neg (by omega)]
  induction f with
  | zero =>
    intro k i hi
    rw [pack_ReadNumber.l3, if_neg (by rw [stop]; omega), rdGo]
    exact hfin 0
  | succ f ih =>
    intro k i hi
    rw [show k + (f + 1) + 1 = (k + f + 1) + 1 by omega, pack_ReadNumber.l3, rdGo]
    by_cases h : i < s.size
    · have hm : (i : Int) < mn (s.size : Int) 9 := (stop i).2 ⟨h, by omega⟩
      have h0 : (0 : Int) ≤ (i : Int) := by omega
      have h1 : (i : Int) < (s.size : Int) := by omega
      have hb := bt_range s i
      have hr := rdv_range s i
      have hv := rdv_small s (i + 1) (by omega)
      have hf := fun n q => read_j5 kk s i n q h (by omega)
      have ho2 := or_add (rdv s i) (bt s i % 128) i (by omega) hr.1 hr.2 (by omega) (by omega)
      have w1 : wrap64 (bt s i) = bt s i := wrap64_id (by clear ho2 hf; omega) (by clear ho2 hf; omega)
      have w2 : Int.tmod (bt s i) 128 = bt s i % 128 := Int.tmod_eq_emod_of_nonneg hb.1
      have w3 : (0 : Int) ≤ wrap64 (7 * (i : Int)) := (wrap64_id (a := 7 * (i : Int)) (by clear w1 ho2 hf; omega) (by clear w1 ho2 hf; omega)).symm ▸ Int.mul_nonneg (by decide) h0
      have w4 : wrap64 ((i : Int) + 1) = ((i + 1 : Nat) : Int) := (wrap64_id (by clear w1 w3 ho2 hf; omega) (by clear w1 w3 ho2 hf; omega)).trans (by rfl)
      have hstep : rdv s i + bt s i % 128 * 128 ^ i = rdv s (i + 1) := rfl
      rw [if_pos h]
      refine (if_pos hm).trans ((if_pos h0).trans ((if_pos h1).trans ((if_pos w3).trans ?_)))
      simp only [w1, w2]
      rw [ho2, hstep]
      by_cases hc : bt s i ≥ 128
      · rw [if_pos hc, if_pos hc, w4]
        exact ih k (i + 1) (by clear w1 w3 w4 ho2 hf; omega)
      · rw [if_neg hc, if_neg hc]
        unfold rdFin
        by_cases ho : Int.tmod (rdv s (i + 1)) 2 = 1
        · refine (if_pos ho).trans ?_
          rw [fin_odd _ hv.1 hv.2 ho]
          exact hf _ _
        · refine (if_neg ho).trans ?_
          rw [fin_even _ hv.1 hv.2 ho]
          exact hf _ _
    · have hm : ¬ ((i : Int) < mn (s.size : Int) 9) := by rw [stop]; omega
      rw [if_neg h]
      refine (if_neg hm).trans ?_
      exact hfin 0
theorem read_tells (k : Nat) (hk : 10 ≤ k) (s : ByteArray) (hs : s.size ≤ 140737488351232) : pack_ReadNumber.f k s = some (rdGo s 9 0) := by
  obtain ⟨k, rfl⟩ : ∃ q, k = q + 10 := ⟨k - 10, by omega⟩
  exact read_l3 (k + 10) s hs 9 k 0 rfl
/-! ### what is written is read -/
def val : List Int → Int
  | [] => 0
  | b :: bs => b % 128 + 128 * val bs
theorem val_snoc (b : Int) : ∀ l : List Int, val (l ++ [b]) = val l + b % 128 * 128 ^ l.length
  | [] => by simp [val]
  | a :: l => by
    rw [List.cons_append, val, val_snoc b l, val, List.length_cons, Int.pow_succ, Int.mul_add, Int.mul_comm ((128 : Int) ^ l.length) 128, Int.mul_left_comm]
    omega
theorem rdv_val (s : ByteArray) : ∀ i, i ≤ s.size → rdv s i = val ((byI s).take i)
  | 0, _ => rfl
  | i + 1, h => by
    have hg := bt_get (s := s) (i := i) (by omega)
    have hl : ((byI s).take i).length = i := by rw [List.length_take, ← size_byI]; omega
    rw [rdv, rdv_val s i (by omega), List.take_add_one, hg, Option.toList_some, val_snoc, hl]
/-- A number's bytes: all but the last one are 128 or more. -/
inductive Dg : List Int → Prop where
  | last {b : Int} (h : 0 ≤ b) (h2 : b < 128) : Dg [b]
  | more {b : Int} {l : List Int} (h : 128 ≤ b) (h2 : b < 256) (k : Dg l) (h3 : 0 < val l) : Dg (b :: l)
theorem digs_ok : ∀ (n : Nat) (x : Int), 0 ≤ x → x < 128 * 128 ^ n → Dg (digs n x) ∧ val (digs n x) = x ∧ (digs n x).length ≤ n + 1
  | 0, x, h0, h1 => by
    have h1' : x < 128 := by simpa using h1
    refine ⟨.last h0 h1', ?_, by simp [digs]⟩
    simp [digs, val]
    omega
  | n + 1, x, h0, h1 => by
    rw [digs]
    by_cases h : x ≥ 128
    · have hp : (128 : Int) ^ (n + 1) = 128 ^ n * 128 := Int.pow_succ ..
      obtain ⟨a1, a2, a3⟩ := digs_ok n (x / 128) (by omega) (by omega)
      rw [if_pos h]
      refine ⟨.more (by omega) (by omega) a1 (by rw [a2]; omega), ?_, by simp; omega⟩
      rw [val, a2]
      omega
    · rw [if_neg h]
      refine ⟨.last h0 (by omega), ?_, by simp⟩
      simp [val]
      omega
theorem Dg.ok8 {l : List Int} (h : Dg l) : okB l := by
  induction h with
  | last h h2 => intro x hx; simp at hx; subst hx; omega
  | more h h2 k h3 ih =>
    intro x hx
    rcases List.mem_cons.1 hx with rfl | hx
    · omega
    · exact ih x hx
theorem Dg.ne {l : List Int} (h : Dg l) : 1 ≤ l.length := by cases h <;> simp
theorem Dg.at {l : List Int} (h : Dg l) : (∀ (i : Nat) (x : Int), i + 1 < l.length → l[i]? = some x → 128 ≤ x) ∧ ∀ x : Int, l[l.length - 1]? = some x → x < 128 ∧ (1 < l.length → x ≠ 0) := by
  induction h with
  | last h h2 => exact ⟨fun i x hi => by simp at hi, fun x hx => by simp at hx; subst hx; exact ⟨h2, by simp⟩⟩
  | @more b l h h2 k h3 ih =>
    have hne := k.ne
    refine ⟨fun i x hi hx => ?_, fun x hx => ?_⟩
    · cases i with
      | zero => simp at hx; omega
      | succ i => exact ih.1 i x (by simpa using hi) (by simpa using hx)
    · rw [List.length_cons, Nat.add_sub_cancel, show l.length = (l.length - 1) + 1 by omega, List.getElem?_cons_succ] at hx
      obtain ⟨h4, h5⟩ := ih.2 x hx
      refine ⟨h4, fun _ h0 => ?_⟩
      by_cases h6 : 1 < l.length
      · exact h5 h6 h0
      · have h7 : l.length = 1 := by omega
        cases l with
        | nil => simp at h7
        | cons y ys =>
          have : ys = [] := by simpa using h7
          subst this
          simp at hx
          subst hx h0
          simp [val] at h3
theorem Dg.of : ∀ (l : List Int), okB l → 1 ≤ l.length → (∀ (i : Nat) (x : Int), i + 1 < l.length → l[i]? = some x → 128 ≤ x) → (∀ x : Int, l[l.length - 1]? = some x → x < 128 ∧ (1 < l.length → x ≠ 0)) → Dg l
  | [], _, h, _, _ => by simp at h
  | [b], ho, _, _, h => by
    have := h b rfl
    exact .last (ho b (by simp)).1 this.1
  | b :: c :: l, ho, _, h1, h2 => by
    have ih := Dg.of (c :: l) (fun x hx => ho x (by simp [hx])) (by simp) (fun i x hi hx => h1 (i + 1) x (by simpa using hi) (by simpa using hx)) (fun x hx => by
      have := h2 x (by simpa using hx)
      exact ⟨this.1, fun _ => this.2 (by simp)⟩)
    refine .more (h1 0 b (by simp) rfl) (ho b (by simp)).2 ih ?_
    have key : ∀ (l : List Int), okB l → Dg l → (∀ x : Int, l[l.length - 1]? = some x → x ≠ 0) → 0 < val l := by
      intro l ho hd hl
      cases hd with
      | @last b h h2 =>
        have := hl b rfl
        simp [val]
        omega
      | more h h2 k h3 => rw [val]; omega
    exact key _ (fun x hx => ho x (by simp [hx])) ih fun x hx => (h2 x (by simpa using hx)).2 (by simp)
theorem Dg.digs {l : List Int} (h : Dg l) : ∀ n, l.length ≤ n + 1 → digs n (val l) = l := by
  induction h with
  | @last b h h2 =>
    intro n _
    have e : val [b] = b := by simp [val]; omega
    rw [e]
    cases n with
    | zero => rfl
    | succ n => rw [Pure.digs, if_neg (by omega)]
  | @more b l h h2 k h3 ih =>
    intro n hn
    cases n with
    | zero => have := k.ne; simp only [List.length_cons] at hn; omega
    | succ n =>
      rw [Pure.digs, val, if_pos (by omega), show (b % 128 + 128 * val l) / 128 = val l by omega, ih n (by simpa using hn), show (b % 128 + 128 * val l) % 128 + 128 = b by omega]
theorem rdGo_found (s : ByteArray) (j : Nat) (hj : j < s.size) (h8 : bt s j < 128) : ∀ (f i : Nat), i ≤ j → j < i + f → (∀ q, i ≤ q → q < j → 128 ≤ bt s (q : Int)) → rdGo s f i = rdFin s j
  | 0, i, h1, h2, _ => by omega
  | f + 1, i, h1, h2, h3 => by
    rw [rdGo, if_pos (by omega)]
    by_cases e : i = j
    · subst e
      rw [if_neg (by omega)]
    · rw [if_pos (h3 i (Nat.le_refl _) (by omega))]
      exact rdGo_found s j hj h8 f (i + 1) (by omega) (by omega) fun q h4 h5 => h3 q (by omega) h5
theorem rdGo_inv (s : ByteArray) (n : Int) (r : ByteArray) : ∀ (f i : Nat), rdGo s f i = (n, r, 0) → ∃ j, i ≤ j ∧ j < i + f ∧ j < s.size ∧ (∀ q, i ≤ q → q < j → 128 ≤ bt s (q : Int)) ∧ bt s j < 128 ∧ rdFin s j = (n, r, 0)
  | 0, i, h => by
    rw [rdGo] at h
    split at h <;> simp at h
  | f + 1, i, h => by
    rw [rdGo] at h
    split at h
    · rename_i hi
      split at h
      · rename_i hb
        obtain ⟨j, h1, h2, h3, h4, h5, h6⟩ := rdGo_inv s n r f (i + 1) h
        refine ⟨j, by omega, by omega, h3, fun q h7 h8 => ?_, h5, h6⟩
        rcases Nat.lt_or_eq_of_le h7 with h9 | h9
        · exact h4 q h9 h8
        · subst h9; exact hb
      · rename_i hb
        exact ⟨i, Nat.le_refl _, by omega, hi, fun q h7 h8 => by omega, by omega, h⟩
    · split at h <;> simp at h
def may (a : Int) : Prop := -1152921504606846976 ≤ a ∧ a ≤ 1152921504606846976
/-- A number's bytes. -/
def numS (a : Int) : ByteArray := strOfNums (digs 8 (zig a))
theorem zig_range {a : Int} (h : may a) : 0 ≤ zig a ∧ zig a < 128 * 128 ^ 8 := by
  unfold may at h
  have h8 : (128 : Int) * 128 ^ 8 = 9223372036854775808 := by decide +kernel
  rw [h8]
  unfold zig
  split <;> omega
theorem zag_zig (a : Int) : zag (zig a) = a := by unfold zag zig; split <;> split <;> omega
theorem zig_zag {x : Int} (h : 0 ≤ x) : zig (zag x) = x := by unfold zag zig; split <;> split <;> omega
theorem numS_by {a : Int} (h : may a) : byI (numS a) = digs 8 (zig a) := byI_num (digs_ok 8 _ (zig_range h).1 (zig_range h).2).1.ok8
theorem numS_size {a : Int} (h : may a) : 1 ≤ (numS a).size ∧ (numS a).size ≤ 9 := by
  have := digs_ok 8 _ (zig_range h).1 (zig_range h).2
  rw [size_byI, numS_by h]
  exact ⟨this.1.ne, this.2.2⟩
/-- What is written is read. -/
theorem read_num {a : Int} (h : may a) (r : ByteArray) : rdGo (numS a ++ r) 9 0 = (a, r, 0) := by
  obtain ⟨d1, d2, d3⟩ := digs_ok 8 _ (zig_range h).1 (zig_range h).2
  have hb := numS_by h
  have hn := d1.ne
  obtain ⟨d4, d5⟩ := d1.at
  have hs : (numS a).size = (digs 8 (zig a)).length := by rw [size_byI, hb]
  have hget : ∀ i, i < (digs 8 (zig a)).length → (byI (numS a ++ r))[i]? = (digs 8 (zig a))[i]? := fun i hi => by
    rw [byI_app, hb, List.getElem?_append_left hi]
  have hj : (digs 8 (zig a)).length - 1 < (numS a ++ r).size := by rw [app_size, hs]; omega
  have hl : ∃ x, (digs 8 (zig a))[(digs 8 (zig a)).length - 1]? = some x := ⟨_, List.getElem?_eq_getElem (by omega)⟩
  obtain ⟨x, hx⟩ := hl
  have hbx := bt_of ((hget _ (by omega)).trans hx)
  obtain ⟨d6, d7⟩ := d5 x hx
  rw [rdGo_found (numS a ++ r) _ hj (by rw [hbx]; exact d6) 9 0 (Nat.zero_le _) (by omega) fun q _ hq => by
    obtain ⟨y, hy⟩ : ∃ y, (digs 8 (zig a))[q]? = some y := ⟨_, List.getElem?_eq_getElem (by omega)⟩
    rw [bt_of ((hget q (by omega)).trans hy)]
    exact d4 q y (by omega) hy]
  have hv : rdv (numS a ++ r) ((digs 8 (zig a)).length - 1 + 1) = zig a := by
    rw [rdv_val _ _ (by omega), byI_app, hb, Nat.sub_add_cancel hn, List.take_left, d2]
  unfold rdFin
  rw [hv, zag_zig, hbx, if_neg]
  · rw [Nat.sub_add_cancel hn, ← hs, ext_right]
  · rintro (⟨h1, h2⟩ | h1)
    · exact d7 (by omega) h1
    · exact h1 h
/-- What is read was written. -/
theorem read_inv {s r : ByteArray} {n : Int} (h : rdGo s 9 0 = (n, r, 0)) : may n ∧ s = numS n ++ r := by
  obtain ⟨j, _, h2, h3, h4, h5, h6⟩ := rdGo_inv s n r 9 0 h
  unfold rdFin at h6
  split at h6
  · simp at h6
  · rename_i hc
    simp only [Prod.mk.injEq, and_true] at h6
    obtain ⟨rfl, rfl⟩ := h6
    have hm : may (zag (rdv s (j + 1))) := by
      unfold may
      exact Classical.byContradiction fun hh => hc (.inr hh)
    refine ⟨hm, ?_⟩
    have hl : ((byI s).take (j + 1)).length = j + 1 := by rw [List.length_take, ← size_byI]; omega
    have hd : Dg ((byI s).take (j + 1)) := by
      refine Dg.of _ (fun x hx => okB_byI s x (List.mem_of_mem_take hx)) (by omega) (fun i x hi hx => ?_) (fun x hx => ?_)
      · rw [hl] at hi
        rw [List.getElem?_take, if_pos (by omega)] at hx
        rw [← bt_of hx]
        exact h4 i (Nat.zero_le _) (by omega)
      · rw [hl, Nat.add_sub_cancel, List.getElem?_take, if_pos (by omega)] at hx
        rw [← bt_of hx]
        exact ⟨h5, fun hlt h0 => hc (.inl ⟨h0, by omega⟩)⟩
    have hv := rdv_val s (j + 1) (by omega)
    have h0 : 0 ≤ rdv s (j + 1) := (rdv_range s _).1
    have e : digs 8 (zig (zag (rdv s (j + 1)))) = (byI s).take (j + 1) := by rw [zig_zag h0, hv, hd.digs 8 (by omega)]
    apply byI_inj
    rw [byI_app, numS_by hm, e, byI_ext, size_byI s, List.take_length, List.take_append_drop]
theorem mn_le_left (a b : Int) : mn a b ≤ a := by unfold mn; split <;> omega
theorem mn_le_right (a b : Int) : mn a b ≤ b := by unfold mn; split <;> omega
theorem mn_nonneg {a b : Int} (h : 0 ≤ a) (h' : 0 ≤ b) : 0 ≤ mn a b := by unfold mn; split <;> omega
/-- The xor of two, of 32 bits, in natural numbers. -/
theorem x32 (a b : Nat) (ha : a < 4294967296) (hb : b < 4294967296) : Go.bits .xor .u32 (a : Int) (b : Int) = ((a ^^^ b : Nat) : Int) := by
  have h : (a ^^^ b) < 4294967296 := Nat.xor_lt_two_pow (n := 32) ha hb
  simp only [Go.bits, IntKind.wrap_u32]
  have e1 : (BitVec.ofInt IntKind.u32.bits (a : Int) ^^^ BitVec.ofInt IntKind.u32.bits (b : Int)).toNat = a ^^^ b := by
    show (BitVec.ofInt 32 (a : Int) ^^^ BitVec.ofInt 32 (b : Int)).toNat = a ^^^ b
    rw [BitVec.toNat_xor]
    simp [BitVec.toNat_ofNat]
    rw [Nat.mod_eq_of_lt ha, Nat.mod_eq_of_lt hb]
  rw [e1]
  omega
theorem x8 (a b : Nat) (ha : a < 256) (hb : b < 256) : Go.bits .xor .u8 (a : Int) (b : Int) = ((a ^^^ b : Nat) : Int) := by
  have h : (a ^^^ b) < 256 := Nat.xor_lt_two_pow (n := 8) ha hb
  simp only [Go.bits, IntKind.wrap_u8]
  have e1 : (BitVec.ofInt IntKind.u8.bits (a : Int) ^^^ BitVec.ofInt IntKind.u8.bits (b : Int)).toNat = a ^^^ b := by
    show (BitVec.ofInt 8 (a : Int) ^^^ BitVec.ofInt 8 (b : Int)).toNat = a ^^^ b
    rw [BitVec.toNat_xor]
    simp [BitVec.toNat_ofNat]
    rw [Nat.mod_eq_of_lt ha, Nat.mod_eq_of_lt hb]
  rw [e1]
  omega
/-! The check, in natural numbers. -/
def cstp (c : Nat) : Nat := if c % 2 = 1 then (c / 2) ^^^ 2197175160 else c / 2
def cit : Nat → Nat → Nat
  | 0, c => c
  | n + 1, c => cstp (cit n c)
def bn (s : ByteArray) (i : Nat) : Nat := (s.data.toList.getD i 0).toNat
def cbyte (c b : Nat) : Nat := (c / 256) ^^^ cit 8 ((c % 256) ^^^ b)
def cupto (c : Nat) (s : ByteArray) : Nat → Nat
  | 0 => c
  | i + 1 => cbyte (cupto c s i) (bn s i)
theorem bn_lt (s : ByteArray) (i : Nat) : bn s i < 256 := UInt8.toNat_lt _
theorem bt_bn (s : ByteArray) (i : Nat) : bt s (i : Int) = (bn s i : Int) := by
  unfold bt bn
  have hl : s.data.toList.length = s.size := by rw [Array.length_toList]; rfl
  by_cases h : i < s.size
  · have h' : ((i : Int)).toNat < s.size := by simpa using h
    rw [dif_pos h']
    have h2 : i < s.data.toList.length := by omega
    simp [List.getD_eq_getElem?_getD, List.getElem?_eq_getElem h2]
    rfl
  · have h' : ¬ ((i : Int)).toNat < s.size := by simpa using h
    rw [dif_neg h']
    have h2 : s.data.toList.length ≤ i := by omega
    simp [List.getD_eq_getElem?_getD, List.getElem?_eq_none h2]
theorem cstp_lt (c : Nat) (h : c < 4294967296) : cstp c < 4294967296 := by
  unfold cstp
  split
  · exact Nat.xor_lt_two_pow (n := 32) (by omega) (by decide)
  · omega
theorem cit_lt (n c : Nat) (h : c < 4294967296) : cit n c < 4294967296 := by
  induction n with
  | zero => exact h
  | succ n ih => exact cstp_lt _ ih
theorem xor8_lt {a b : Nat} (ha : a < 256) (hb : b < 256) : a ^^^ b < 256 := Nat.xor_lt_two_pow (n := 8) ha hb
theorem cbyte_lt (c b : Nat) (h : c < 4294967296) (hb : b < 256) : cbyte c b < 4294967296 :=
  Nat.xor_lt_two_pow (n := 32) (by omega) (cit_lt _ _ (by have := xor8_lt (a := c % 256) (b := b) (by omega) hb; omega))
theorem cupto_lt (c : Nat) (s : ByteArray) (h : c < 4294967296) : ∀ i, cupto c s i < 4294967296
  | 0 => h
  | i + 1 => cbyte_lt _ _ (cupto_lt c s h i) (bn_lt s i)
/-- The check of a text, on from another one. -/
def con (c : Nat) (s : ByteArray) : Nat := (cupto (c ^^^ 4294967295) s s.size) ^^^ 4294967295
theorem con_lt (c : Nat) (s : ByteArray) (h : c < 4294967296) : con c s < 4294967296 :=
  Nat.xor_lt_two_pow (n := 32) (cupto_lt _ _ (Nat.xor_lt_two_pow (n := 32) h (by decide)) _) (by decide)
theorem cupto_congr (c : Nat) (s t : ByteArray) : ∀ n, (∀ i, i < n → bn s i = bn t i) → cupto c s n = cupto c t n
  | 0, _ => rfl
  | n + 1, h => by
    show cbyte (cupto c s n) (bn s n) = cbyte (cupto c t n) (bn t n)
    rw [cupto_congr c s t n (fun i hi => h i (by omega)), h n (by omega)]
theorem cupto_add (c : Nat) (s t : ByteArray) (n : Nat) : ∀ m, (∀ i, i < m → bn s (n + i) = bn t i) → cupto c s (n + m) = cupto (cupto c s n) t m
  | 0, _ => rfl
  | m + 1, h => by
    show cbyte (cupto c s (n + m)) (bn s (n + m)) = cbyte (cupto (cupto c s n) t m) (bn t m)
    rw [cupto_add c s t n m (fun i hi => h i (by omega)), h m (by omega)]
theorem bn_left (s t : ByteArray) (i : Nat) (h : i < s.size) : bn (s ++ t) i = bn s i := by
  have h2 : i < s.data.toList.length := by rw [Array.length_toList]; exact h
  unfold bn
  rw [ByteArray.data_append, Array.toList_append, List.getD_eq_getElem?_getD, List.getElem?_append_left h2, ← List.getD_eq_getElem?_getD]
theorem bn_right (s t : ByteArray) (i : Nat) : bn (s ++ t) (s.size + i) = bn t i := by
  have h2 : s.data.toList.length = s.size := by rw [Array.length_toList]; rfl
  unfold bn
  rw [ByteArray.data_append, Array.toList_append, List.getD_eq_getElem?_getD, List.getElem?_append_right (by omega), h2, Nat.add_sub_cancel_left, ← List.getD_eq_getElem?_getD]
theorem con_app (c : Nat) (s t : ByteArray) : con (con c s) t = con c (s ++ t) := by
  unfold con
  have e : ∀ v : Nat, v ^^^ 4294967295 ^^^ 4294967295 = v := fun v => by rw [Nat.xor_assoc, Nat.xor_self, Nat.xor_zero]
  rw [e, ByteArray.size_append, cupto_add _ (s ++ t) t s.size t.size (fun i _ => bn_right s t i), cupto_congr _ (s ++ t) s s.size (fun i hi => bn_left s t i hi)]
/-! The check is linear. -/
theorem xor_half (x y : Nat) : (x ^^^ y) / 2 = x / 2 ^^^ y / 2 := by
  have h := Nat.shiftRight_xor_distrib (a := x) (b := y) (i := 1)
  simpa [Nat.shiftRight_eq_div_pow] using h
theorem xor_low (x y : Nat) : (x ^^^ y) % 2 = (x % 2 + y % 2) % 2 := by
  have h := Nat.xor_mod_two_pow (a := x) (b := y) (n := 1)
  simp only [Nat.pow_one] at h
  rw [h]
  rcases Nat.mod_two_eq_zero_or_one x with hx | hx <;> rcases Nat.mod_two_eq_zero_or_one y with hy | hy <;> rw [hx, hy] <;> rfl
theorem cstp_xor (x y : Nat) : cstp (x ^^^ y) = cstp x ^^^ cstp y := by
  unfold cstp
  rw [xor_low, xor_half]
  rcases Nat.mod_two_eq_zero_or_one x with hx | hx <;> rcases Nat.mod_two_eq_zero_or_one y with hy | hy <;> simp only [hx, hy] <;> simp
  · rw [Nat.xor_assoc]
  · rw [Nat.xor_assoc, Nat.xor_assoc, Nat.xor_comm (y / 2)]
  · rw [show (x / 2 ^^^ 2197175160) ^^^ (y / 2 ^^^ 2197175160) = (x / 2 ^^^ y / 2) ^^^ (2197175160 ^^^ 2197175160) by ac_rfl]
    simp
theorem cit_xor (n x y : Nat) : cit n (x ^^^ y) = cit n x ^^^ cit n y := by
  induction n with
  | zero => rfl
  | succ n ih =>
    show cstp (cit n (x ^^^ y)) = cstp (cit n x) ^^^ cstp (cit n y)
    rw [ih, cstp_xor]
theorem cit_front (n c : Nat) : cit n (cstp c) = cit (n + 1) c := by
  induction n with
  | zero => rfl
  | succ n ih =>
    show cstp (cit n (cstp c)) = cstp (cit (n + 1) c)
    rw [ih]
theorem cit_add (m n c : Nat) : cit m (cit n c) = cit (m + n) c := by
  induction m with
  | zero => rw [Nat.zero_add]; rfl
  | succ m ih =>
    rw [show m + 1 + n = (m + n) + 1 by omega]
    show cstp (cit m (cit n c)) = cstp (cit (m + n) c)
    rw [ih]
theorem cit_pow (n d : Nat) : cit n (2 ^ n * d) = d := by
  induction n generalizing d with
  | zero => simp [cit]
  | succ n ih =>
    rw [← cit_front]
    have e : cstp (2 ^ (n + 1) * d) = 2 ^ n * d := by
      unfold cstp
      rw [Nat.pow_succ]
      rw [if_neg (by rw [Nat.mul_comm (2 ^ n) 2, Nat.mul_assoc]; omega)]
      rw [Nat.mul_comm (2 ^ n) 2, Nat.mul_assoc]
      omega
    rw [e, ih]
theorem xor_split (c : Nat) : c = (256 * (c / 256)) ^^^ (c % 256) := by
  have h := Nat.two_pow_add_eq_or_of_lt (i := 8) (b := c % 256) (Nat.mod_lt _ (by decide)) (c / 256)
  have h2 : 256 * (c / 256) ^^^ c % 256 = 256 * (c / 256) ||| c % 256 := by
    apply Nat.eq_of_testBit_eq
    intro i
    rw [Nat.testBit_xor, Nat.testBit_or]
    have e1 : (256 * (c / 256)).testBit i = (decide (i ≥ 8) && c.testBit i) := by
      rw [show (256 : Nat) = 2 ^ 8 from rfl, Nat.testBit_two_pow_mul, Nat.testBit_div_two_pow]
      by_cases hi : i ≥ 8
      · rw [show i - 8 + 8 = i by omega]
      · simp [hi]
    have e2 : (c % 256).testBit i = (decide (i < 8) && c.testBit i) := by
      rw [show (256 : Nat) = 2 ^ 8 from rfl, Nat.testBit_mod_two_pow]
    rw [e1, e2]
    by_cases hi : i < 8
    · simp [hi, show ¬ 8 ≤ i by omega]
    · simp [hi, show 8 ≤ i by omega]
  rw [h2, ← show (256 : Nat) = 2 ^ 8 from rfl] at *
  rw [← h]
  omega
theorem cbyte_bits (c b : Nat) : cbyte c b = cit 8 (c ^^^ b) := by
  unfold cbyte
  have e : c ^^^ b = (256 * (c / 256)) ^^^ ((c % 256) ^^^ b) := by
    rw [← Nat.xor_assoc, ← xor_split]
  rw [e, cit_xor 8 (256 * (c / 256)), show (256 : Nat) * (c / 256) = 2 ^ 8 * (c / 256) from rfl, cit_pow]

/-! ### the check, as the program goes -/
theorem w32 {n : Int} (h : 0 ≤ n) (h2 : n < 4294967296) : IntKind.u32.wrap n = n := by rw [IntKind.wrap_u32]; omega
theorem and1 (c : Nat) (h : c < 4294967296) : Go.bits .and .u32 (c : Int) 1 = ((c % 2 : Nat) : Int) := by
  have := bits_mask .u32 32 (by decide) (by intro n h h'; rw [IntKind.wrap_u32]; omega) 1 (by decide) (c : Int) (by omega) (by omega)
  have h2 : Go.bits .and .u32 (c : Int) 1 = (c : Int) % 2 := this
  rw [h2]
  omega
theorem fdiv2 (c : Nat) : (c : Int).fdiv (2 ^ min (1 : Int).toNat IntKind.u32.bits) = ((c / 2 : Nat) : Int) := by
  rw [show (2 : Int) ^ min (1 : Int).toNat IntKind.u32.bits = 2 by decide +kernel, Int.fdiv_eq_ediv_of_nonneg _ (by decide)]
  omega
theorem fdiv8 (c : Nat) : (c : Int).fdiv (2 ^ min (8 : Int).toNat IntKind.u32.bits) = ((c / 256 : Nat) : Int) := by
  rw [show (2 : Int) ^ min (8 : Int).toNat IntKind.u32.bits = 256 by decide +kernel, Int.fdiv_eq_ediv_of_nonneg _ (by decide)]
  omega
theorem tab_in (k : Nat) (rec_ : Int → List Int → Option (List Int)) (l : List Int) (n : Nat) (hn : n < 256) (hl : l.length = 256) : ∀ (d j m : Nat), j + d = 8 → d < m →
    check_Table.l9 k rec_ (n : Int) l m (cit j n : Int) (j : Int) = rec_ ((n + 1 : Nat) : Int) (l.set n (cit 8 n : Int))
  | 0, j, m, hj, hm => by
    obtain ⟨m, rfl⟩ : ∃ q, m = q + 1 := ⟨m - 1, by omega⟩
    obtain rfl : j = 8 := by omega
    rw [check_Table.l9, if_neg (by decide), if_pos (by omega), if_pos (by omega), if_pos (by rw [Int.toNat_natCast]; omega), Int.toNat_natCast, w32 (by omega) (by omega)]
    rfl
  | d + 1, j, m, hj, hm => by
    obtain ⟨m, rfl⟩ : ∃ q, m = q + 1 := ⟨m - 1, by omega⟩
    have hc := cit_lt j n (by omega)
    have ih := tab_in k rec_ l n hn hl d (j + 1) m (by omega) (by omega)
    have hw : wrap64 ((j : Int) + 1) = ((j + 1 : Nat) : Int) := by unfold wrap64; omega
    have hs : cit (j + 1) n = cstp (cit j n) := rfl
    rw [check_Table.l9, if_pos (by omega), and1 _ hc, fdiv2, hw]
    by_cases ho : cit j n % 2 = 1
    · have e5 : Go.bits .xor .u32 ((cit j n / 2 : Nat) : Int) 2197175160 = ((cit (j + 1) n : Nat) : Int) := by
        rw [hs, cstp, if_pos ho]
        exact x32 (cit j n / 2) 2197175160 (by omega) (by decide)
      rw [if_pos (by rw [ho]; rfl), e5]
      exact ih
    · have e4 : cit (j + 1) n = cit j n / 2 := by rw [hs, cstp, if_neg ho]
      rw [if_neg (by omega), ← e4]
      exact ih
def tabl (n : Nat) : List Int := (List.range 256).map fun i => if i < n then (cit 8 i : Int) else 0
theorem tabl_len (n : Nat) : (tabl n).length = 256 := by simp [tabl]
theorem tabl_at {n i : Nat} (h : i < 256) : (tabl n)[i]? = some (if i < n then (cit 8 i : Int) else 0) := by simp [tabl, h]
theorem tabl_set {n : Nat} (h : n < 256) : (tabl n).set n (cit 8 n : Int) = tabl (n + 1) := by
  apply List.ext_getElem?
  intro i
  by_cases hi : i < 256
  · rw [tabl_at hi, List.getElem?_set]
    by_cases e : n = i
    · subst e
      simp [tabl_len, h]
    · rw [if_neg e, tabl_at hi]
      have : (i < n + 1) ↔ i < n := by omega
      simp [this]
  · rw [List.getElem?_eq_none (by simp [tabl_len]; omega), List.getElem?_eq_none (by simp [tabl_len]; omega)]
theorem tab_out (k : Nat) (hk : 9 ≤ k) : ∀ (d n m : Nat), n + d = 256 → d < m → check_Table.l5 k m (n : Int) (tabl n) = some (tabl 256)
  | 0, n, m, hn, hm => by
    obtain ⟨m, rfl⟩ : ∃ q, m = q + 1 := ⟨m - 1, by omega⟩
    obtain rfl : n = 256 := by omega
    rw [check_Table.l5, if_neg (by decide), if_pos (tabl_len _), if_pos (List.length_replicate ..)]
  | d + 1, n, m, hn, hm => by
    obtain ⟨m, rfl⟩ : ∃ q, m = q + 1 := ⟨m - 1, by omega⟩
    have := tab_in k (check_Table.l5 k m) (tabl n) n (by omega) (tabl_len n) 8 0 k rfl (by omega)
    rw [check_Table.l5, if_pos (by omega)]
    refine Eq.trans ?_ (this.trans ?_)
    · rfl
    · rw [tabl_set (by omega)]
      exact tab_out k hk d (n + 1) m (by omega) (by omega)
theorem table_tells (k : Nat) (hk : 300 ≤ k) : check_Table.f k = some (tabl 256) := by
  unfold check_Table.f
  have h0 : List.replicate 256 (0 : Int) = tabl 0 := by decide +kernel
  rw [h0]
  exact tab_out k (by omega) 256 0 k rfl (by omega)
theorem on_l1 (k : Nat) (s : ByteArray) (hs : s.size ≤ 1000000) (c0 : Nat) (h0 : c0 < 4294967296) : ∀ (d i m : Nat), i + d = s.size → d < m →
    check_On.l1 k s (tabl 256) m (cupto c0 s i : Int) (i : Int) = some (((cupto c0 s s.size) ^^^ 4294967295 : Nat) : Int)
  | 0, i, m, hi, hm => by
    obtain ⟨m, rfl⟩ : ∃ q, m = q + 1 := ⟨m - 1, by omega⟩
    obtain rfl : i = s.size := by omega
    rw [check_On.l1, if_neg (by omega)]
    exact congrArg some (x32 _ 4294967295 (cupto_lt _ _ h0 _) (by decide))
  | d + 1, i, m, hi, hm => by
    obtain ⟨m, rfl⟩ : ∃ q, m = q + 1 := ⟨m - 1, by omega⟩
    have ih := on_l1 k s hs c0 h0 d (i + 1) m (by omega) (by omega)
    have hc := cupto_lt c0 s h0 i
    have hb := bn_lt s i
    have hw : wrap64 ((i : Int) + 1) = ((i + 1 : Nat) : Int) := by unfold wrap64; omega
    have e1 : IntKind.u8.wrap (cupto c0 s i : Int) = ((cupto c0 s i % 256 : Nat) : Int) := by rw [IntKind.wrap_u8]; omega
    have hx := xor8_lt (a := cupto c0 s i % 256) (b := bn s i) (by omega) hb
    have e2 : Go.bits .xor .u8 (IntKind.u8.wrap (cupto c0 s i : Int)) (bt s (i : Int)) = ((cupto c0 s i % 256 ^^^ bn s i : Nat) : Int) := by
      rw [e1, bt_bn]
      exact x8 _ _ (by omega) hb
    rw [check_On.l1, if_pos (by omega), if_pos (by omega), if_pos (by omega), e2, if_pos (by omega), if_pos (by omega), Int.toNat_natCast, tabl_at hx, if_pos hx, Option.bind_some, fdiv8, hw, x32 _ _ (by omega) (cit_lt _ _ (by omega))]
    exact ih
theorem on_tells (k c : Nat) (hc : c < 4294967296) (s : ByteArray) (hs : s.size ≤ 1000000) (hk : 300 ≤ k) (hk2 : s.size < k) : check_On.f k (c : Int) s = some (con c s : Int) := by
  have h1 : c ^^^ 4294967295 < 4294967296 := Nat.xor_lt_two_pow (n := 32) hc (by decide)
  unfold check_On.f con
  rw [table_tells k hk, Option.bind_some, if_pos (tabl_len _), if_pos (List.length_replicate ..), show Go.bits .xor .u32 (c : Int) 4294967295 = ((c ^^^ 4294967295 : Nat) : Int) from x32 c 4294967295 hc (by decide)]
  exact on_l1 k s hs _ h1 s.size 0 k (by omega) hk2
theorem of_check (k : Nat) (s : ByteArray) (hs : s.size ≤ 1000000) (hk : 300 ≤ k) (hk2 : s.size < k) : check_Of.f k s = some (con 0 s : Int) := by
  unfold check_Of.f
  rw [show (0 : Int) = ((0 : Nat) : Int) from rfl, on_tells k 0 (by decide) s hs hk hk2]
  rfl
/-- The four bytes of a check, the lowest first. -/
def b4 (c : Nat) : List Int := [((c % 256 : Nat) : Int), ((c / 256 % 256 : Nat) : Int), ((c / 65536 % 256 : Nat) : Int), ((c / 16777216 % 256 : Nat) : Int)]
theorem bytes_check (k c : Nat) (hk : 5 ≤ k) : check_Bytes.f k (c : Int) = some (strOfNums (b4 c)) := by
  obtain ⟨k, rfl⟩ : ∃ q, k = q + 5 := ⟨k - 5, by omega⟩
  have q0 : IntKind.u8.wrap ((c : Int).fdiv (2 ^ min (wrap64 (8 * 0)).toNat IntKind.u32.bits)) = ((c % 256 : Nat) : Int) := by
    rw [show (2 : Int) ^ min (wrap64 (8 * 0)).toNat IntKind.u32.bits = 1 by decide +kernel, Int.fdiv_eq_ediv_of_nonneg _ (by decide), IntKind.wrap_u8]; omega
  have q1 : IntKind.u8.wrap ((c : Int).fdiv (2 ^ min (wrap64 (8 * 1)).toNat IntKind.u32.bits)) = ((c / 256 % 256 : Nat) : Int) := by
    rw [show (2 : Int) ^ min (wrap64 (8 * 1)).toNat IntKind.u32.bits = 256 by decide +kernel, Int.fdiv_eq_ediv_of_nonneg _ (by decide), IntKind.wrap_u8]; omega
  have q2 : IntKind.u8.wrap ((c : Int).fdiv (2 ^ min (wrap64 (8 * 2)).toNat IntKind.u32.bits)) = ((c / 65536 % 256 : Nat) : Int) := by
    rw [show (2 : Int) ^ min (wrap64 (8 * 2)).toNat IntKind.u32.bits = 65536 by decide +kernel, Int.fdiv_eq_ediv_of_nonneg _ (by decide), IntKind.wrap_u8]; omega
  have q3 : IntKind.u8.wrap ((c : Int).fdiv (2 ^ min (wrap64 (8 * 3)).toNat IntKind.u32.bits)) = ((c / 16777216 % 256 : Nat) : Int) := by
    rw [show (2 : Int) ^ min (wrap64 (8 * 3)).toNat IntKind.u32.bits = 16777216 by decide +kernel, Int.fdiv_eq_ediv_of_nonneg _ (by decide), IntKind.wrap_u8]; omega
  have s0 : wrap64 (0 + 1) = 1 := by decide +kernel
  have s1 : wrap64 (1 + 1) = 2 := by decide +kernel
  have s2 : wrap64 (2 + 1) = 3 := by decide +kernel
  have s3 : wrap64 (3 + 1) = 4 := by decide +kernel
  have p0 : (0 : Int) ≤ wrap64 (8 * 0) := by decide +kernel
  have p1 : (0 : Int) ≤ wrap64 (8 * 1) := by decide +kernel
  have p2 : (0 : Int) ≤ wrap64 (8 * 2) := by decide +kernel
  have p3 : (0 : Int) ≤ wrap64 (8 * 3) := by decide +kernel
  unfold check_Bytes.f
  rw [check_Bytes.l1, if_pos (by decide), if_pos p0, if_pos (by decide), if_pos (by decide), if_pos (by decide), q0, s0]
  rw [check_Bytes.l1, if_pos (by decide), if_pos p1, if_pos (by decide), if_pos (by decide), if_pos (by simp), q1, s1]
  rw [check_Bytes.l1, if_pos (by decide), if_pos p2, if_pos (by decide), if_pos (by decide), if_pos (by simp), q2, s2]
  rw [check_Bytes.l1, if_pos (by decide), if_pos p3, if_pos (by decide), if_pos (by decide), if_pos (by simp), q3, s3]
  rw [check_Bytes.l1, if_neg (by decide), if_pos (by simp)]
  rfl
/-! ### records -/
def B4 (d : ByteArray) : ByteArray := strOfNums (b4 (con 0 d))
theorem B4_size (d : ByteArray) : (B4 d).size = 4 := by rw [B4, num_size]; rfl
/-- A record's bytes. -/
def frm (d : ByteArray) : ByteArray := numS d.size ++ d ++ B4 d
theorem may_small {n : Nat} (h : n ≤ 1000000) : may (n : Int) := by unfold may; omega
theorem frm_size {d : ByteArray} (h : d.size ≤ 1000000) : d.size + 5 ≤ (frm d).size ∧ (frm d).size ≤ d.size + 13 := by
  have := numS_size (may_small h)
  rw [frm, app_size, app_size, B4_size]
  omega
/-- One record ahead of what is behind it. -/
def fStep (s : ByteArray) : Option (ByteArray × ByteArray) :=
  if (rdGo s 9 0).2.2 = 0 ∧ 0 ≤ (rdGo s 9 0).1 ∧ (rdGo s 9 0).1 ≤ 4096 ∧ (rdGo s 9 0).1 + 4 ≤ (rdGo s 9 0).2.1.size ∧ (rdGo s 9 0).2.1.extract (rdGo s 9 0).1.toNat ((rdGo s 9 0).1 + 4).toNat = B4 ((rdGo s 9 0).2.1.extract 0 (rdGo s 9 0).1.toNat) then
    some ((rdGo s 9 0).2.1.extract 0 (rdGo s 9 0).1.toNat, (rdGo s 9 0).2.1.extract ((rdGo s 9 0).1 + 4).toNat (rdGo s 9 0).2.1.size) else none
theorem fStep_frm {d : ByteArray} (h : d.size ≤ 4096) (r : ByteArray) : fStep (frm d ++ r) = some (d, r) := by
  have e : frm d ++ r = numS d.size ++ (d ++ (B4 d ++ r)) := by rw [frm, app_assoc, app_assoc]
  unfold fStep
  rw [e, read_num (may_small (by omega))]
  have hs : (d ++ (B4 d ++ r)).size = d.size + (4 + r.size) := by rw [app_size, app_size, B4_size]
  have e1 : (d ++ (B4 d ++ r)).extract 0 d.size = d := ext_left _ _
  have e2 : (d ++ (B4 d ++ r)).extract d.size (d.size + 4) = B4 d := by
    apply byI_inj
    rw [byI_ext, byI_app, byI_app, size_byI d, ← List.append_assoc, List.take_left' (by rw [List.length_append, ← size_byI, ← size_byI, B4_size]), List.drop_left]
  have e3 : (d ++ (B4 d ++ r)).extract (d.size + 4) (d.size + (4 + r.size)) = r := by
    have := ext_right (d ++ B4 d) r
    rw [app_assoc, hs, app_size, B4_size] at this
    exact this
  have e4 : ((d.size : Int) + 4).toNat = d.size + 4 := by omega
  simp only [Int.toNat_natCast, e4, e1, e2, hs, e3]
  rw [if_pos]
  exact ⟨by trivial, by omega, by omega, by omega, by trivial⟩
theorem fStep_inv {s d r : ByteArray} (h : fStep s = some (d, r)) : s = frm d ++ r ∧ d.size ≤ 4096 := by
  unfold fStep at h
  split at h
  · rename_i hc
    obtain ⟨c1, c2, c3, c4, c5⟩ := hc
    generalize hq : rdGo s 9 0 = q at *
    obtain ⟨n, t, e⟩ := q
    simp only at c1 c2 c3 c4 c5 h
    subst c1
    simp only [Option.some.injEq, Prod.mk.injEq] at h
    obtain ⟨rfl, rfl⟩ := h
    obtain ⟨_, rfl⟩ := read_inv hq
    have hn : n.toNat ≤ t.size := by omega
    have hs : (t.extract 0 n.toNat).size = n.toNat := by rw [ext_size _ _ _ hn]; omega
    have e5 : t.extract 0 n.toNat ++ (B4 (t.extract 0 n.toNat) ++ t.extract (n + 4).toNat t.size) = t := by
      rw [← c5]
      apply byI_inj
      rw [byI_app, byI_app, byI_ext, byI_ext, byI_ext, size_byI t, List.take_length, List.drop_zero, show (n + 4).toNat = n.toNat + 4 by omega]
      rw [List.drop_take, Nat.add_sub_cancel_left, ← List.drop_drop, List.take_append_drop, List.take_append_drop]
    refine ⟨?_, by omega⟩
    rw [frm, hs, app_assoc, app_assoc, e5]
    congr 2
    omega
  · cases h
theorem fStep_iff {s d r : ByteArray} : fStep s = some (d, r) ↔ s = frm d ++ r ∧ d.size ≤ 4096 := ⟨fStep_inv, fun h => by rw [h.1]; exact fStep_frm h.2 r⟩
/-- Records' bytes, one behind the other. -/
def whole : List ByteArray → ByteArray
  | [] => ⟨#[]⟩
  | d :: l => frm d ++ whole l
/-- The records of bytes, and what is left. -/
inductive Scans : ByteArray → List ByteArray → ByteArray → Prop where
  | nil {s : ByteArray} (h : fStep s = none) : Scans s [] s
  | cons {s d r t : ByteArray} {l : List ByteArray} (h : fStep s = some (d, r)) (k : Scans r l t) : Scans s (d :: l) t
theorem step_less {s d r : ByteArray} (h : fStep s = some (d, r)) : r.size + 5 ≤ s.size := by
  obtain ⟨rfl, h2⟩ := fStep_inv h
  have := frm_size (d := d) (by omega)
  rw [app_size]
  omega
theorem Scans.all : ∀ (n : Nat) (s : ByteArray), s.size ≤ n → ∃ l t, Scans s l t
  | n, s, hn => by
    cases h : fStep s with
    | none => exact ⟨[], s, .nil h⟩
    | some p =>
      obtain ⟨d, r⟩ := p
      have := step_less h
      cases n with
      | zero => omega
      | succ n =>
        obtain ⟨l, t, k⟩ := Scans.all n r (by omega)
        exact ⟨d :: l, t, .cons h k⟩
theorem Scans.det {s t t' : ByteArray} {l l' : List ByteArray} (h : Scans s l t) (k : Scans s l' t') : l = l' ∧ t = t' := by
  induction h generalizing l' t' with
  | nil h =>
    cases k with
    | nil _ => exact ⟨rfl, rfl⟩
    | cons h2 _ => rw [h] at h2; cases h2
  | cons h k2 ih =>
    cases k with
    | nil h2 => rw [h] at h2; cases h2
    | cons h2 k3 =>
      rw [h] at h2
      simp only [Option.some.injEq, Prod.mk.injEq] at h2
      obtain ⟨rfl, rfl⟩ := h2
      obtain ⟨rfl, rfl⟩ := ih k3
      exact ⟨rfl, rfl⟩
theorem Scans.is {s t : ByteArray} {l : List ByteArray} (h : Scans s l t) : s = whole l ++ t ∧ (∀ d ∈ l, d.size ≤ 4096) ∧ fStep t = none := by
  induction h with
  | nil h => exact ⟨(nil_app _).symm, by simp, h⟩
  | cons h k ih =>
    obtain ⟨h1, h2⟩ := fStep_inv h
    refine ⟨by rw [h1, ih.1, whole, app_assoc], fun x hx => ?_, ih.2.2⟩
    rcases List.mem_cons.1 hx with rfl | hx
    · exact h2
    · exact ih.2.1 x hx
theorem Scans.of {b t : ByteArray} {l' : List ByteArray} (h : Scans b l' t) : ∀ l : List ByteArray, (∀ d ∈ l, d.size ≤ 4096) → Scans (whole l ++ b) (l ++ l') t
  | [], _ => by rw [whole, nil_app]; exact h
  | d :: l, hl => by
    rw [whole, app_assoc]
    exact .cons (fStep_frm (hl d (by simp)) _) (Scans.of h l fun x hx => hl x (by simp [hx]))
theorem frame_tells (k : Nat) (hk : 5000 ≤ k) (d : ByteArray) (hs : d.size ≤ 140737488351232) : frame_Frame.f k d = some (if d.size ≤ 4096 then (frm d, 0) else (⟨#[]⟩, 3)) := by
  unfold frame_Frame.f
  by_cases h : d.size ≤ 4096
  · have hm := may_small (n := d.size) (by omega)
    have h9 := numS_size hm
    rw [if_neg (by omega), if_pos h, number_tells k (by omega), if_pos (show -1152921504606846976 ≤ (d.size : Int) ∧ (d.size : Int) ≤ 1152921504606846976 from hm), Option.bind_some]
    show (if (numS (d.size : Int)).size + d.size ≤ 9223372036854775807 then _ else none) = _
    rw [if_pos (by omega), of_check k d (by omega) (by omega) (by omega), Option.bind_some, bytes_check k _ (by omega), Option.bind_some]
    show (if (numS (d.size : Int) ++ d).size + (B4 d).size ≤ 9223372036854775807 then some (frm d, (0 : Int)) else none) = _
    rw [if_pos (by rw [app_size, B4_size]; omega)]
  · rw [if_pos (by omega), if_neg h]
theorem scan_l1 (k : Nat) (hk : 5000 ≤ k) (a0 : ByteArray) {s t : ByteArray} {l : List ByteArray} (h : Scans s l t) : ∀ (m : Nat) (out : List ByteArray), s.size < m → s.size ≤ 1000000 → out.length + s.size ≤ 1000000 →
    frame_Scan.l1 k a0 m s (s.size : Int) out = some (out ++ l, wrap64 ((a0.size : Int) - t.size)) := by
  have common : ∀ (s : ByteArray) (m : Nat) (out : List ByteArray), s.size ≤ 1000000 → out.length + s.size ≤ 1000000 → frame_Scan.l1 k a0 (m + 1) s (s.size : Int) out = (match fStep s with
      | none => some (out, wrap64 ((a0.size : Int) - s.size))
      | some (d, r) => frame_Scan.l1 k a0 m r (r.size : Int) (out ++ [d])) := by
    intro s m out hs ho
    unfold fStep
    rw [frame_Scan.l1, read_tells k (by omega) s (by omega), Option.bind_some]
    have hinv := fun n r (h : rdGo s 9 0 = (n, r, 0)) => read_inv h
    generalize rdGo s 9 0 = q at *
    obtain ⟨n, r, e⟩ := q
    dsimp only
    by_cases c1 : e = 0
    · subst c1
      obtain ⟨hm, hsr⟩ := hinv n r rfl
      have hr : r.size ≤ s.size := by rw [hsr, app_size]; omega
      rw [if_pos rfl]
      by_cases c2 : n < 0
      · rw [if_pos c2, if_neg (fun h => by omega)]
      · rw [if_neg c2]
        by_cases c3 : n > 4096
        · rw [if_pos c3, if_neg (fun h => by omega)]
        · have hw : wrap64 (n + 4) = n + 4 := by unfold wrap64; omega
          rw [if_neg c3, hw]
          by_cases c4 : n + 4 > (r.size : Int)
          · rw [if_pos c4, if_neg (fun h => by omega)]
          · have hx : (r.extract 0 n.toNat).size ≤ 4096 := by rw [ext_size _ _ _ (by omega)]; omega
            rw [if_neg c4, if_pos (by omega), if_pos (by omega), if_pos (by omega), if_pos (by omega), if_pos (by omega), of_check k _ (by omega) (by omega) (by omega), Option.bind_some, bytes_check k _ (by omega), Option.bind_some, beq_is]
            by_cases c5 : r.extract n.toNat (n + 4).toNat = strOfNums (b4 (con 0 (r.extract 0 n.toNat)))
            · rw [if_pos (decide_eq_true c5), if_pos (by simp; omega), if_pos ⟨rfl, by omega, by omega, by omega, c5⟩]
            · rw [if_neg (by simpa using c5), if_neg (fun h => c5 h.2.2.2.2)]
    · rw [if_neg c1, if_neg (fun h => c1 h.1)]
  induction h with
  | nil h =>
    intro m out hm _ _
    obtain ⟨m, rfl⟩ : ∃ q, m = q + 1 := ⟨m - 1, by omega⟩
    rw [common _ _ _ (by omega) (by omega), h, List.append_nil]
  | cons h k ih =>
    intro m out hm h1 h2
    obtain ⟨m, rfl⟩ : ∃ q, m = q + 1 := ⟨m - 1, by omega⟩
    have hl := step_less h
    rw [common _ _ _ (by omega) (by omega), h]
    dsimp only
    rw [ih m _ (by omega) (by omega) (by simp; omega), List.append_assoc]
    rfl
theorem scan_tells {s t : ByteArray} {l : List ByteArray} (h : Scans s l t) (k : Nat) (hk : 5000 ≤ k) (hs : s.size < k) (hs2 : s.size ≤ 1000000) : frame_Scan.f k s = some (l, ((s.size - t.size : Nat) : Int)) := by
  unfold frame_Scan.f
  rw [scan_l1 k hk s h k [] hs hs2 (by simp; omega)]
  have h1 := congrArg ByteArray.size h.is.1
  rw [app_size] at h1
  rw [show wrap64 ((s.size : Int) - t.size) = ((s.size - t.size : Nat) : Int) by unfold wrap64; omega]
  rfl
theorem same_self (k : Nat) (a : List ByteArray) (hk : a.length < k) (hs : a.length < 1000000) : tarryref01_Same.f k a a = some true := by
  unfold tarryref01_Same.f
  rw [if_pos rfl]
  have key : ∀ (xs : List ByteArray) (i : Nat), a.drop i = xs → tarryref01_Same.r1 k a a xs i = some true := by
    intro xs
    induction xs with
    | nil => intro i _; rfl
    | cons x xs ih =>
      intro i hi
      obtain ⟨h1, h2, h3⟩ := drop_cons_is hi
      rw [tarryref01_Same.r1, Int.toNat_natCast, h2, Option.bind_some, beq_is, if_pos (decide_eq_true rfl), ih (i + 1) h3]
  have := tarryref01_Same.r1_eq k a a (by omega) k 0 (by omega) (by omega)
  rw [show ((0 : Nat) : Int) = 0 from rfl, List.drop_zero] at this
  rw [this, key a 0 rfl]
theorem all_tells {s t : ByteArray} {l : List ByteArray} (h : Scans s l t) (k : Nat) (hk : 5000 ≤ k) (hs : s.size < k) (hs2 : s.size ≤ 1000000) : frame_All.f k s = some (if t.size = 0 then (l, 0) else ([], 6)) := by
  unfold frame_All.f
  rw [scan_tells h k hk hs hs2, Option.bind_some]
  have h1 := congrArg ByteArray.size h.is.1
  rw [app_size] at h1
  dsimp only
  by_cases h0 : t.size = 0
  · rw [if_neg (by omega), if_pos h0]
  · rw [if_pos (by omega), if_neg h0]

/-! ### disks -/
def cut66 (x : ByteArray) : ByteArray := x.extract 0 (mn (x.size : Int) 66).toNat
theorem cut66_ok (x : ByteArray) : 0 ≤ mn (x.size : Int) 66 ∧ mn (x.size : Int) 66 ≤ (x.size : Int) ∧ (cut66 x).size ≤ 66 := by
  have h : mn (x.size : Int) 66 = ((min x.size 66 : Nat) : Int) := by unfold mn; split <;> omega
  unfold cut66
  rw [h, Int.toNat_natCast, ext_size _ _ _ (by omega)]
  omega
theorem mn_take {α : Type} (l : List α) (n : Nat) (q : Int) (hq : q = n) : mn (l.length : Int) q = ((min l.length n : Nat) : Int) ∧ (l.take (min l.length n)).drop 0 = l.take n := by
  subst hq
  refine ⟨by unfold mn; split <;> omega, ?_⟩
  rw [List.drop_zero]
  rcases Nat.le_total l.length n with h | h
  · rw [List.take_of_length_le (by omega), List.take_of_length_le (by omega)]
  · rw [Nat.min_eq_right h]
/-- Which disks may be. -/
def wB (n : Nat) (x : S55) : Bool := decide (0 ≤ x.f0 ∧ x.f0 < (n : Int) ∧ x.f1.size = 64)
def sB (x : ByteArray) : Bool := decide (x.size = 64)
def rightB (ss : List ByteArray) (ws : List S55) : Bool := decide (1 ≤ ss.length ∧ ss.length ≤ 512 ∧ ws.length ≤ 64) && (ss.all sB && ws.all (wB ss.length))
theorem rightB_is {ss : List ByteArray} {ws : List S55} : rightB ss ws = true ↔ (1 ≤ ss.length ∧ ss.length ≤ 512 ∧ ws.length ≤ 64) ∧ (∀ x ∈ ss, x.size = 64) ∧ ∀ x ∈ ws, 0 ≤ x.f0 ∧ x.f0 < (ss.length : Int) ∧ x.f1.size = 64 := by
  unfold rightB wB sB
  simp only [Bool.and_eq_true, decide_eq_true_eq, List.all_eq_true]
theorem idx_s (k : Nat) (l : List ByteArray) : ∀ (xs : List ByteArray) (i : Nat), ∃ n : Int, slices_IndexFunc_string_string.r1 k l xs i = some n ∧ decide (n ≥ 0) = !xs.all sB
  | [], i => ⟨-1, rfl, rfl⟩
  | x :: xs, i => by
    rw [slices_IndexFunc_string_string.r1, disk_Right_1.f, Option.bind_some]
    by_cases h : x.size = 64
    · obtain ⟨n, h1, h2⟩ := idx_s k l xs (i + 1)
      refine ⟨n, ?_, ?_⟩
      · rw [if_neg (by simp; omega), h1]
      · rw [h2, List.all_cons, show sB x = true by simp [sB, h], Bool.true_and]
    · refine ⟨i, ?_, ?_⟩
      · rw [if_pos (by simp; omega)]
      · rw [List.all_cons, show sB x = false by simp [sB, h]]
        simp
theorem idx_w (k n : Nat) (l : List S55) : ∀ (xs : List S55) (i : Nat), ∃ q : Int, slices_IndexFunc_api_Write_api_Write.r1 k (n : Int) l xs i = some q ∧ decide (q ≥ 0) = !xs.all (wB n)
  | [], i => ⟨-1, rfl, rfl⟩
  | x :: xs, i => by
    have hb : disk_Right_2.f x.f0 x.f1 (n : Int) = some (!wB n x) := by
      unfold disk_Right_2.f wB disk_Right_1.f
      by_cases h1 : x.f0 < 0
      · rw [if_pos h1, decide_eq_false (by omega)]; rfl
      · rw [if_neg h1]
        by_cases h2 : x.f0 ≥ (n : Int)
        · rw [if_pos h2, decide_eq_false (by omega)]; rfl
        · rw [if_neg h2, Option.bind_some]
          by_cases h3 : x.f1.size = 64
          · rw [decide_eq_true (by omega), h3]; rfl
          · rw [decide_eq_false (by omega)]
            have : ((x.f1.size : Int) != 64) = true := by simp; omega
            rw [this]; rfl
    rw [slices_IndexFunc_api_Write_api_Write.r1, hb, Option.bind_some, List.all_cons]
    cases hw : wB n x with
    | true =>
      obtain ⟨q, h1, h2⟩ := idx_w k n l xs (i + 1)
      exact ⟨q, by rw [if_neg (by simp), h1], by rw [h2, Bool.true_and]⟩
    | false => exact ⟨i, by rw [if_pos (by simp)], by simp⟩
theorem right_tells (k : Nat) (ss : List ByteArray) (ws : List S55) (h1 : ss.length < k) (h2 : ws.length < k) (hk : k ≤ 1000000) : disk_Right.f k ss ws = some (rightB ss ws) := by
  obtain ⟨n, e1, e2⟩ := idx_s k ss ss 0
  obtain ⟨q, g1, g2⟩ := idx_w k ss.length ws ws 0
  have e3 := slices_IndexFunc_string_string.r1_eq k ss (by omega) k 0 (by omega) (by omega)
  have g3 := slices_IndexFunc_api_Write_api_Write.r1_eq k (ss.length : Int) ws (by omega) k 0 (by omega) (by omega)
  rw [show ((0 : Nat) : Int) = 0 from rfl, List.drop_zero] at e3 g3
  unfold disk_Right.f rightB
  by_cases c1 : (ss.length : Int) ≥ 1
  · rw [if_pos c1]
    by_cases c2 : (ss.length : Int) ≤ 512
    · rw [if_pos c2]
      by_cases c3 : (ws.length : Int) ≤ 64
      · rw [if_pos c3, slices_ContainsFunc_string_string.f, slices_IndexFunc_string_string.f, e3, e1, Option.bind_some, Option.bind_some, e2, decide_eq_true (by omega), Bool.true_and]
        cases ss.all sB with
        | false => rfl
        | true =>
          rw [if_neg (by simp), slices_ContainsFunc_api_Write_api_Write.f, slices_IndexFunc_api_Write_api_Write.f, g3, g1, Option.bind_some, Option.bind_some, g2]
          cases ws.all (wB ss.length) <;> rfl
      · rw [if_neg c3, decide_eq_false (by omega)]; rfl
    · rw [if_neg c2, decide_eq_false (by omega)]; rfl
  · rw [if_neg c1, decide_eq_false (by omega)]; rfl
/-- What is read of a place. -/
def getF (a : Int) (ws : List S55) (s : ByteArray) : ByteArray := ws.foldl (fun s w => if w.f0 = a then w.f1 else s) s
theorem get_l0 (k : Nat) (a : Int) (ss : List ByteArray) (ws : List S55) (s : ByteArray) (ha : 0 ≤ a) (hs : ss[a.toNat]? = some s) (hw : ws.length ≤ 1000000) : ∀ (n m : Nat), n ≤ ws.length → n < m → disk_Get.l0 k a ss ws m ((n : Int) - 1) = some (getF a (ws.take n) s, 0)
  | 0, m, _, hm => by
    obtain ⟨m, rfl⟩ : ∃ q, m = q + 1 := ⟨m - 1, by omega⟩
    rw [disk_Get.l0, if_neg (by omega), if_pos ha, hs, Option.bind_some]
    rfl
  | n + 1, m, hn, hm => by
    obtain ⟨m, rfl⟩ : ∃ q, m = q + 1 := ⟨m - 1, by omega⟩
    have e : ((n + 1 : Nat) : Int) - 1 = (n : Int) := by omega
    have hx : ws[n]? = some ws[n] := List.getElem?_eq_getElem (by omega)
    have ew : wrap64 ((n : Int) - 1) = (n : Int) - 1 := by unfold wrap64; omega
    rw [e, disk_Get.l0, if_pos (by omega), if_pos (by omega), Int.toNat_natCast, hx, Option.bind_some, ew, get_l0 k a ss ws s ha hs hw n m (by omega) (by omega)]
    have : ws.take (n + 1) = ws.take n ++ [ws[n]] := by rw [List.take_add_one, hx]; rfl
    unfold getF
    rw [this, List.foldl_append]
    simp only [List.foldl_cons, List.foldl_nil]
    split <;> rfl
theorem get_tells (k : Nat) (ss : List ByteArray) (ws : List S55) (a : Int) (h1 : ss.length < k) (h2 : ws.length < k) (hk : k ≤ 1000000) : disk_Get.f k ss ws a = some (if rightB ss ws = true then (if 0 ≤ a ∧ a < (ss.length : Int) then (getF a ws (ss.getD a.toNat ⟨#[]⟩), 0) else (⟨#[]⟩, 8)) else (⟨#[]⟩, 1)) := by
  unfold disk_Get.f
  rw [right_tells k ss ws h1 h2 hk, Option.bind_some]
  cases rightB ss ws with
  | false => rfl
  | true =>
    rw [if_pos rfl, if_pos rfl]
    by_cases c1 : a < 0
    · rw [if_pos c1, if_neg (by omega)]
    · rw [if_neg c1]
      by_cases c2 : a ≥ (ss.length : Int)
      · rw [if_pos c2, if_neg (by omega)]
      · have hx : ss[a.toNat]? = some ss[a.toNat] := List.getElem?_eq_getElem (by omega)
        have ew : wrap64 ((ws.length : Int) - 1) = (ws.length : Int) - 1 := by unfold wrap64; omega
        rw [if_neg c2, if_pos (by omega), slices_Backward_api_Write_api_Write.f, Option.bind_some, ew, get_l0 k a ss ws _ (by omega) hx (by omega) ws.length k (Nat.le_refl _) h2, List.take_length, List.getD_eq_getElem?_getD, hx]
        rfl
theorem put_tells (k : Nat) (ss : List ByteArray) (ws : List S55) (a : Int) (d : ByteArray) (h1 : ss.length < k) (h2 : ws.length < k) (hk : k ≤ 1000000) : disk_Put.f k ss ws a d = some (if rightB ss ws = true then (if 0 ≤ a ∧ a < (ss.length : Int) then (if d.size = 64 then (if ws.length = 64 then ([], [], 7) else (ss, ws ++ [⟨a, d⟩], 0)) else ([], [], 1)) else ([], [], 8)) else ([], [], 1)) := by
  unfold disk_Put.f
  rw [right_tells k ss ws h1 h2 hk, Option.bind_some]
  cases hr : rightB ss ws with
  | false => rfl
  | true =>
    have hr2 := rightB_is.1 hr
    rw [if_pos rfl, if_pos rfl]
    by_cases c1 : a < 0
    · rw [if_pos c1, if_neg (by omega)]
    · rw [if_neg c1]
      by_cases c2 : a ≥ (ss.length : Int)
      · rw [if_pos c2, if_neg (by omega)]
      · rw [if_neg c2, if_pos (show 0 ≤ a ∧ a < (ss.length : Int) by omega)]
        by_cases c3 : d.size = 64
        · rw [if_pos (by omega), if_pos c3]
          by_cases c4 : ws.length = 64
          · rw [if_pos (by omega), if_pos c4]
          · rw [if_neg (by omega), if_neg c4, slices_Clip_api_Write_api_Write.f, Option.bind_some, if_pos (by simp; omega)]
        · rw [if_neg (by omega), if_neg c3]
/-! ### a crash -/
def runC (a : Nat) : List S55 → Nat → List ByteArray → Int → List ByteArray × Int
  | [], _, l, last => (l, last)
  | w :: ws, i, l, last => if a / 2 ^ i % 2 = 1 then runC a ws (i + 1) (l.set w.f0.toNat w.f1) last else runC a ws (i + 1) l (i : Int)
def tear (n : Nat) (x y : ByteArray) : ByteArray := x.extract 0 n ++ y.extract n y.size
def finC (t : Int) (ws : List S55) (p : List ByteArray × Int) : List ByteArray :=
  if 0 ≤ p.2 ∧ 1 ≤ t ∧ t < 64 then (match ws[p.2.toNat]? with
    | some w => p.1.set w.f0.toNat (tear t.toNat w.f1 (p.1.getD w.f0.toNat ⟨#[]⟩))
    | none => p.1) else p.1
def crashB (ss : List ByteArray) (ws : List S55) (a : Nat) (t : Int) : List ByteArray := finC t ws (runC a ws 0 ss (-1))
theorem and64 (c : Nat) (h : c < 18446744073709551616) : Go.bits .and .u64 (c : Int) 1 = ((c % 2 : Nat) : Int) := by
  have := bits_mask .u64 64 (by decide) (by intro n h h'; rw [IntKind.wrap_u64]; omega) 1 (by decide) (c : Int) (by omega) (by omega)
  have h2 : Go.bits .and .u64 (c : Int) 1 = (c : Int) % 2 := this
  rw [h2]
  omega
theorem shr64 (a i : Nat) (h : i < 64) : (a : Int).fdiv (2 ^ min i IntKind.u64.bits) = ((a / 2 ^ i : Nat) : Int) := by
  have e : min i IntKind.u64.bits = i := Nat.min_eq_left (show i ≤ 64 by omega)
  have e2 : (2 : Int) ^ i = ((2 ^ i : Nat) : Int) := (Int.natCast_pow 2 i).symm
  rw [e, e2, Int.fdiv_eq_ediv_of_nonneg _ (Int.natCast_nonneg _)]
  rfl
theorem runC_is (a : Nat) (n : Nat) : ∀ (xs : List S55) (i : Nat) (l : List ByteArray) (last : Int), (∀ x ∈ xs, 0 ≤ x.f0 ∧ x.f0 < (n : Int) ∧ x.f1.size = 64) → l.length = n → (∀ x ∈ l, x.size = 64) → -1 ≤ last → last < (i + xs.length : Nat) →
    (runC a xs i l last).1.length = n ∧ (∀ x ∈ (runC a xs i l last).1, x.size = 64) ∧ -1 ≤ (runC a xs i l last).2 ∧ (runC a xs i l last).2 < (i + xs.length : Nat)
  | [], i, l, last, _, h2, h3, h4, h5 => ⟨h2, h3, h4, h5⟩
  | x :: xs, i, l, last, h1, h2, h3, h4, h5 => by
    have hx := h1 x (by simp)
    have h1' := fun y hy => h1 y (List.mem_cons_of_mem _ hy)
    simp only [List.length_cons] at h5 ⊢
    unfold runC
    split
    · have := runC_is a n xs (i + 1) (l.set x.f0.toNat x.f1) last h1' (by rw [List.length_set]; exact h2) (fun y hy => by
        rcases List.mem_or_eq_of_mem_set hy with hy | rfl
        · exact h3 y hy
        · exact hx.2.2) h4 (by omega)
      exact ⟨this.1, this.2.1, this.2.2.1, by omega⟩
    · have := runC_is a n xs (i + 1) l (i : Int) h1' h2 h3 (by omega) (by omega)
      exact ⟨this.1, this.2.1, this.2.2.1, by omega⟩
theorem crash_r3 (k : Nat) (a : Nat) (ha : a < 18446744073709551616) (t : Int) (ws : List S55) (n : Nat) : ∀ (xs : List S55) (i : Nat) (l : List ByteArray) (last : Int), (∀ x ∈ xs, 0 ≤ x.f0 ∧ x.f0 < (n : Int) ∧ x.f1.size = 64) → l.length = n → i + xs.length ≤ 64 →
    disk_Crash.r3 k (a : Int) t ws xs i l last = disk_Crash.j2 k t ws (runC a xs i l last).1 (runC a xs i l last).2
  | [], i, l, last, _, _, _ => by rw [disk_Crash.r3]; rfl
  | x :: xs, i, l, last, h1, h2, h3 => by
    have hx := h1 x (by simp)
    have h1' := fun y hy => h1 y (List.mem_cons_of_mem _ hy)
    simp only [List.length_cons] at h3
    have hd : a / 2 ^ i < 18446744073709551616 := Nat.lt_of_le_of_lt (Nat.div_le_self _ _) ha
    rw [disk_Crash.r3, Int.toNat_natCast, shr64 a i (by omega), and64 _ hd]
    unfold runC
    by_cases c : a / 2 ^ i % 2 = 1
    · have hg : l[x.f0.toNat]? = some l[x.f0.toNat] := List.getElem?_eq_getElem (by omega)
      rw [if_pos (by omega), if_pos hx.1, hg, Option.bind_some, if_pos c, crash_r3 k a ha t ws n xs (i + 1) _ last h1' (by rw [List.length_set]; exact h2) (by omega)]
    · rw [if_neg (by omega), if_neg c, crash_r3 k a ha t ws n xs (i + 1) l _ h1' h2 (by omega)]
theorem tear_is (n : Nat) (x y : ByteArray) (hn : n ≤ 64) (hx : x.size = 64) (hy : y.size = 64) : strOfNums ((byI (x.extract 0 n)).take (min (x.extract 0 n).size y.size) ++ (byI y).drop (min (x.extract 0 n).size y.size)) = tear n x y := by
  have hs : (x.extract 0 n).size = n := by rw [ext_size _ _ _ (by omega)]; omega
  rw [hs, hy, Nat.min_eq_left hn]
  unfold tear
  apply byI_inj
  rw [byI_num, byI_app, byI_ext y, List.take_of_length_le (by rw [← size_byI, hs]; exact Nat.le_refl _), List.take_of_length_le (l := byI y) (by rw [← size_byI]; exact Nat.le_refl _)]
  intro z hz
  rcases List.mem_append.1 hz with hz | hz
  · exact okB_byI _ z (List.mem_of_mem_take hz)
  · exact okB_byI _ z (List.mem_of_mem_drop hz)
theorem tear_size (n : Nat) (x y : ByteArray) (hn : n ≤ 64) (hx : x.size = 64) (hy : y.size = 64) : (tear n x y).size = 64 := by
  unfold tear
  rw [app_size, ext_size _ _ _ (by omega), ext_size _ _ _ (Nat.le_refl _)]
  omega
theorem crash_j2 (k : Nat) (t : Int) (ws : List S55) (l : List ByteArray) (last : Int) (hw : ∀ x ∈ ws, 0 ≤ x.f0 ∧ x.f0 < (l.length : Int) ∧ x.f1.size = 64) (hl : ∀ x ∈ l, x.size = 64) (h2 : last < (ws.length : Int)) : disk_Crash.j2 k t ws l last = some (finC t ws (l, last), [], 0) := by
  unfold disk_Crash.j2 finC
  by_cases c1 : last ≥ 0
  · rw [if_pos c1]
    by_cases c2 : t ≥ 1
    · rw [if_pos c2]
      by_cases c3 : t < 64
      · have hg : ws[last.toNat]? = some ws[last.toNat] := List.getElem?_eq_getElem (by omega)
        have hx := hw _ (List.mem_of_getElem? hg)
        generalize ws[last.toNat] = x at hg hx
        have hy : l[x.f0.toNat]? = some l[x.f0.toNat] := List.getElem?_eq_getElem (by omega)
        have hys := hl _ (List.mem_of_getElem? hy)
        generalize l[x.f0.toNat] = y at hy hys
        have hs : (x.f1.extract 0 t.toNat).size = t.toNat := by rw [ext_size _ _ _ (by omega)]; omega
        rw [if_pos c3, if_pos (show 0 ≤ (l, last).2 ∧ 1 ≤ t ∧ t < 64 from ⟨c1, c2, c3⟩), if_pos c1, hg, Option.bind_some, if_pos hx.1, hy, Option.bind_some, if_pos (by omega), if_pos (by omega), if_pos (by rw [← size_byI]), tear_is t.toNat x.f1 y (by omega) hx.2.2 hys]
        have hsz : ((byI (x.f1.extract 0 t.toNat)).take (min (x.f1.extract 0 t.toNat).size y.size) ++ (byI y).drop (min (x.f1.extract 0 t.toNat).size y.size)).length = y.size := by
          rw [List.length_append, List.length_take, List.length_drop, ← size_byI, ← size_byI, hs, hys]
          omega
        rw [if_pos hsz, Option.bind_some]
        dsimp only
        rw [List.getD_eq_getElem?_getD, hy]
        rfl
      · rw [if_neg c3, if_neg (fun h => c3 h.2.2)]
    · rw [if_neg c2, if_neg (fun h => c2 h.2.1)]
  · rw [if_neg c1, if_neg (fun h => c1 h.1)]
theorem crash_tells (k : Nat) (ss : List ByteArray) (ws : List S55) (a : Nat) (ha : a < 18446744073709551616) (t : Int) (h1 : ss.length < k) (h2 : ws.length < k) (hk : k ≤ 1000000) : disk_Crash.f k ss ws (a : Int) t = some (if rightB ss ws = true then (crashB ss ws a t, [], 0) else ([], [], 1)) := by
  unfold disk_Crash.f
  rw [right_tells k ss ws h1 h2 hk, Option.bind_some]
  cases hr : rightB ss ws with
  | false => rfl
  | true =>
    obtain ⟨⟨r1, r2, r3⟩, r4, r5⟩ := rightB_is.1 hr
    have hi := runC_is a ss.length ws 0 ss (-1) r5 rfl r4 (by omega) (by omega)
    have e := disk_Crash.r3_eq k (a : Int) t ws (by omega) k 0 ss (-1) (by omega) (by omega)
    rw [show ((0 : Nat) : Int) = 0 from rfl, List.drop_zero] at e
    rw [if_pos rfl, if_pos rfl, slices_Clone_string_string.f, if_pos (by omega), Option.bind_some, e, crash_r3 k a ha t ws ss.length ws 0 ss (-1) r5 rfl (by omega), crash_j2 k t ws _ _ (by rw [hi.1]; exact r5) hi.2.1 (by omega)]
    rfl
theorem crashB_is {ss : List ByteArray} {ws : List S55} (hr : rightB ss ws = true) (a : Nat) (t : Int) : (crashB ss ws a t).length = ss.length ∧ ∀ x ∈ crashB ss ws a t, x.size = 64 := by
  obtain ⟨⟨r1, r2, r3⟩, r4, r5⟩ := rightB_is.1 hr
  obtain ⟨i1, i2, i3, i4⟩ := runC_is a ss.length ws 0 ss (-1) r5 rfl r4 (by omega) (by omega)
  unfold crashB finC
  generalize runC a ws 0 ss (-1) = p at *
  split
  · rename_i c
    have hg : ws[p.2.toNat]? = some ws[p.2.toNat] := List.getElem?_eq_getElem (by omega)
    rw [hg]
    have hx := r5 _ (List.mem_of_getElem? hg)
    generalize ws[p.2.toNat] = x at hx
    dsimp only
    refine ⟨by rw [List.length_set]; exact i1, fun y hy => ?_⟩
    rcases List.mem_or_eq_of_mem_set hy with hy | rfl
    · exact i2 y hy
    · have hy : p.1[x.f0.toNat]? = some p.1[x.f0.toNat] := List.getElem?_eq_getElem (by omega)
      rw [List.getD_eq_getElem?_getD, hy]
      exact tear_size _ _ _ (by omega) hx.2.2 (i2 _ (List.mem_of_getElem? hy))
  · exact ⟨i1, i2⟩

theorem flush_tells (k : Nat) (ss : List ByteArray) (ws : List S55) (h1 : ss.length < k) (h2 : ws.length < k) (hk : k ≤ 1000000) : disk_Flush.f k ss ws = some (if rightB ss ws = true then (crashB ss ws 18446744073709551615 0, [], 0) else ([], [], 1)) := by
  unfold disk_Flush.f
  rw [show (18446744073709551615 : Int) = ((18446744073709551615 : Nat) : Int) from rfl, crash_tells k ss ws _ (by decide) 0 h1 h2 hk, Option.bind_some]

/-! ### heads of a journal -/
theorem or256 (x c i : Nat) (hi : i ≤ 7) (hx : x < 256 ^ i) (hc : c < 256) :
    Go.bits .or .i64 (x : Int) (IntKind.i64.wrap ((c : Int) * 2 ^ min (wrap64 (8 * (i : Int))).toNat IntKind.i64.bits)) = wrap64 ((x + c * 256 ^ i : Nat) : Int) := by
  have e1 : (wrap64 (8 * (i : Int))).toNat = 8 * i := by rw [wrap64_id (by omega) (by omega)]; omega
  have e2 : (256 : Nat) ^ i = 2 ^ (8 * i) := by rw [show (256 : Nat) = 2 ^ 8 from rfl, ← Nat.pow_mul]
  have e3 : (c : Int) * 2 ^ (8 * i) = ((c * 256 ^ i : Nat) : Int) := by
    rw [e2, Int.natCast_mul, Int.natCast_pow]
    rfl
  have hp : (256 : Nat) ^ i ≤ 256 ^ 7 := Nat.pow_le_pow_right (by decide) hi
  have h7 : (256 : Nat) ^ 7 = 72057594037927936 := by decide +kernel
  have hn : c * 256 ^ i ≤ 255 * 72057594037927936 := Nat.mul_le_mul (by omega) (by omega)
  have hxn : x < 72057594037927936 := by omega
  rw [e1, show min (8 * i) IntKind.i64.bits = 8 * i from Nat.min_eq_left (by show 8 * i ≤ 64; omega), e3]
  have hor : x ||| c * 256 ^ i = x + c * 256 ^ i := by
    rw [e2, Nat.mul_comm c, Nat.or_comm, ← Nat.two_pow_add_eq_or_of_lt (by rw [← e2]; exact hx) c, Nat.add_comm]
  generalize c * 256 ^ i = n at hn hor ⊢
  have b0 : (2 : Nat) ^ IntKind.i64.bits = 18446744073709551616 := by decide +kernel
  have b1 : (BitVec.ofInt IntKind.i64.bits (IntKind.i64.wrap (n : Int))).toNat = n := by
    rw [BitVec.toNat_ofInt, b0]
    clear hor hxn hx e1 e2 e3 hp h7 hc
    rw [IntKind.wrap_i64]
    omega
  have b2 : (BitVec.ofInt IntKind.i64.bits (x : Int)).toNat = x := by
    rw [BitVec.toNat_ofInt, b0]
    clear b1 hor hn hx e1 e2 e3 hp h7 hc
    omega
  unfold Go.bits
  simp only
  rw [BitVec.toNat_or, b1, b2, hor, i64w]
def hB (a : Int) (i : Nat) : Int := IntKind.u8.wrap (a.fdiv (2 ^ (8 * i)))
def hL (a b c : Int) : List Int := [116, 97, 114, 114, 121, IntKind.u8.wrap b, hB a 0, hB a 1, hB a 2, hB a 3, hB a 4, hB a 5, hB a 6, hB a 7, hB c 0, hB c 1, hB c 2, hB c 3, 0, 0, 0, 0, 0, 0, 0, 0, 0, 0, 0, 0, 0, 0]
theorem hL_len (a b c : Int) : (hL a b c).length = 32 := rfl
theorem hL_ok (a b c : Int) : okB (hL a b c) := by
  have h : ∀ n : Int, 0 ≤ IntKind.u8.wrap n ∧ IntKind.u8.wrap n < 256 := fun n => by rw [IntKind.wrap_u8]; omega
  have h2 : ∀ (a : Int) (i : Nat), 0 ≤ hB a i ∧ hB a i < 256 := fun a i => h _
  intro x hx
  unfold hL at hx
  simp only [List.mem_cons, List.not_mem_nil, or_false] at hx
  rcases hx with rfl | rfl | rfl | rfl | rfl | rfl | rfl | rfl | rfl | rfl | rfl | rfl | rfl | rfl | rfl | rfl | rfl | rfl | rfl | rfl | rfl | rfl | rfl | rfl | rfl | rfl | rfl | rfl | rfl | rfl | rfl | rfl <;> first | exact h _ | exact h2 _ _ | decide
theorem tarry5 : ((min (⟨#[116, 97, 114, 114, 121]⟩ : ByteArray).size 32) : Int) = 5 := by decide +kernel
theorem sh_is (i : Nat) (hi : i ≤ 7) : min (wrap64 (8 * (i : Int))).toNat IntKind.i64.bits = 8 * i := by
  have e1 : (wrap64 (8 * (i : Int))).toNat = 8 * i := by rw [wrap64_id (by omega) (by omega)]; omega
  rw [e1]
  exact Nat.min_eq_left (by show 8 * i ≤ 64; omega)
theorem head_l1 (k : Nat) (a c : Int) (i m : Nat) (l : List Int) (hi : i < 8) (hl : l.length = 32) : journal_headOf.l1 k a c (m + 1) (i : Int) l = journal_headOf.l1 k a c m ((i + 1 : Nat) : Int) (l.set (6 + i) (hB a i)) := by
  have e1 : wrap64 ((wrap64 ((5 : Int) + 1)) + (i : Int)) = ((6 + i : Nat) : Int) := by rw [wrap64_id (a := 5 + 1) (by omega) (by omega), wrap64_id (by omega) (by omega)]; omega
  have e2 : wrap64 ((i : Int) + 1) = ((i + 1 : Nat) : Int) := (wrap64_id (by omega) (by omega)).trans (by rfl)
  have p1 : (0 : Int) ≤ wrap64 (8 * (i : Int)) := by rw [wrap64_id (by omega) (by omega)]; omega
  have c1 : (i : Int) < 8 := by omega
  have c2 : ((6 + i : Nat) : Int) < 32 := by omega
  have c3 : 6 + i < l.length := by omega
  rw [journal_headOf.l1]
  simp only [tarry5, e1, e2, Int.toNat_natCast, sh_is i (by omega)]
  rw [if_pos c1, if_pos p1, if_pos (Int.natCast_nonneg _), if_pos c2, if_pos c3]
  rfl
theorem head_l5 (k : Nat) (c : Int) (i m : Nat) (l : List Int) (hi : i < 4) (hl : l.length = 32) : journal_headOf.l5 k c (m + 1) (i : Int) l = journal_headOf.l5 k c m ((i + 1 : Nat) : Int) (l.set (14 + i) (hB c i)) := by
  have e1 : wrap64 ((wrap64 ((5 : Int) + 9)) + (i : Int)) = ((14 + i : Nat) : Int) := by rw [wrap64_id (a := 5 + 9) (by omega) (by omega), wrap64_id (by omega) (by omega)]; omega
  have e2 : wrap64 ((i : Int) + 1) = ((i + 1 : Nat) : Int) := (wrap64_id (by omega) (by omega)).trans (by rfl)
  have p1 : (0 : Int) ≤ wrap64 (8 * (i : Int)) := by rw [wrap64_id (by omega) (by omega)]; omega
  have c1 : (i : Int) < 4 := by omega
  have c2 : ((14 + i : Nat) : Int) < 32 := by omega
  have c3 : 14 + i < l.length := by omega
  rw [journal_headOf.l5]
  simp only [tarry5, e1, e2, Int.toNat_natCast, sh_is i (by omega)]
  rw [if_pos c1, if_pos p1, if_pos (Int.natCast_nonneg _), if_pos c2, if_pos c3]
  rfl
theorem head_0 (b : Int) : (((byI (⟨#[116, 97, 114, 114, 121]⟩ : ByteArray)).take (min (⟨#[116, 97, 114, 114, 121]⟩ : ByteArray).size 32) ++ (List.replicate 32 (0 : Int)).drop (min (⟨#[116, 97, 114, 114, 121]⟩ : ByteArray).size 32)).set (5 : Int).toNat (IntKind.u8.wrap b)) = [116, 97, 114, 114, 121, IntKind.u8.wrap b, 0, 0, 0, 0, 0, 0, 0, 0, 0, 0, 0, 0, 0, 0, 0, 0, 0, 0, 0, 0, 0, 0, 0, 0, 0, 0] := by
  have h1 : ((byI (⟨#[116, 97, 114, 114, 121]⟩ : ByteArray)).take (min (⟨#[116, 97, 114, 114, 121]⟩ : ByteArray).size 32) ++ (List.replicate 32 (0 : Int)).drop (min (⟨#[116, 97, 114, 114, 121]⟩ : ByteArray).size 32)) = [116, 97, 114, 114, 121, 0, 0, 0, 0, 0, 0, 0, 0, 0, 0, 0, 0, 0, 0, 0, 0, 0, 0, 0, 0, 0, 0, 0, 0, 0, 0, 0] := by decide +kernel
  rw [h1]
  rfl
theorem headOf_tells (k : Nat) (hk : 20 ≤ k) (a b c : Int) : journal_headOf.f k a b c = some (hL a b c) := by
  obtain ⟨k, rfl⟩ : ∃ q, k = q + 20 := ⟨k - 20, by omega⟩
  unfold journal_headOf.f
  rw [tarry5, if_pos (by decide), if_pos (by decide), if_pos (by decide), if_pos (by decide), head_0]
  refine (head_l1 (k + 20) a c 0 (k + 19) _ (by decide) (by rfl)).trans ?_
  refine (head_l1 (k + 20) a c 1 (k + 18) _ (by decide) (by rfl)).trans ?_
  refine (head_l1 (k + 20) a c 2 (k + 17) _ (by decide) (by rfl)).trans ?_
  refine (head_l1 (k + 20) a c 3 (k + 16) _ (by decide) (by rfl)).trans ?_
  refine (head_l1 (k + 20) a c 4 (k + 15) _ (by decide) (by rfl)).trans ?_
  refine (head_l1 (k + 20) a c 5 (k + 14) _ (by decide) (by rfl)).trans ?_
  refine (head_l1 (k + 20) a c 6 (k + 13) _ (by decide) (by rfl)).trans ?_
  refine (head_l1 (k + 20) a c 7 (k + 12) _ (by decide) (by rfl)).trans ?_
  rw [journal_headOf.l1, if_neg (by decide)]
  refine (head_l5 (k + 20) c 0 (k + 19) _ (by decide) (by rfl)).trans ?_
  refine (head_l5 (k + 20) c 1 (k + 18) _ (by decide) (by rfl)).trans ?_
  refine (head_l5 (k + 20) c 2 (k + 17) _ (by decide) (by rfl)).trans ?_
  refine (head_l5 (k + 20) c 3 (k + 16) _ (by decide) (by rfl)).trans ?_
  rw [journal_headOf.l5, if_neg (by decide)]
  exact if_pos rfl
def hdI (a b c : Int) : ByteArray := strOfNums (hL a b c) ++ strOfNums (hL a b c)
theorem hdI_by (a b c : Int) : byI (hdI a b c) = hL a b c ++ hL a b c := by
  unfold hdI
  rw [byI_app, byI_num (hL_ok a b c)]
theorem hdI_size (a b c : Int) : (hdI a b c).size = 64 := by rw [size_byI, hdI_by]; rfl
theorem sector_tells (a b c : Int) : journal_head_sector.f (hL a b c) = some (hdI a b c) := by
  unfold journal_head_sector.f
  rw [if_pos (hL_len a b c), if_pos]
  · rfl
  · rw [num_size, hL_len]
    decide
def num (s : ByteArray) (o : Nat) : Nat → Nat
  | 0 => 0
  | i + 1 => num s o i + bn s (o + i) * 256 ^ i
theorem num_lt (s : ByteArray) (o : Nat) : ∀ i, num s o i < 256 ^ i
  | 0 => by simp [num]
  | i + 1 => by
    have h1 := num_lt s o i
    have h2 := bn_lt s (o + i)
    have h3 : bn s (o + i) * 256 ^ i ≤ 255 * 256 ^ i := Nat.mul_le_mul_right _ (by omega)
    rw [num, Nat.pow_succ]
    omega
theorem num_small (s : ByteArray) (o i : Nat) (hi : i ≤ 7) : wrap64 ((num s o i : Nat) : Int) = ((num s o i : Nat) : Int) := by
  have h1 := num_lt s o i
  have h2 : (256 : Nat) ^ i ≤ 256 ^ 7 := Nat.pow_le_pow_right (by decide) hi
  have h3 : (256 : Nat) ^ 7 = 72057594037927936 := by decide +kernel
  exact wrap64_id (by omega) (by omega)
def sT (s : ByteArray) : Int := wrap64 ((num s 6 8 : Nat) : Int)
def sY (s : ByteArray) : Int := bt s 5
def sZ (s : ByteArray) : Int := ((num s 14 4 : Nat) : Int)
def room (n : Nat) : Nat := (n - 2) / 2 * 64
theorem half_is {n : Nat} (h : 2 ≤ n) (h2 : n ≤ 1000) : IntKind.i64.wrap ((wrap64 ((n : Int) - 2)).tdiv 2) = (((n - 2) / 2 : Nat) : Int) := by
  have e : (n : Int) - 2 = ((n - 2 : Nat) : Int) := by omega
  rw [e, wrap64_id (by omega) (by omega), i64w, Int.tdiv_eq_ediv_of_nonneg (by omega)]
  exact wrap64_id (by omega) (by omega)
theorem room_tells {n : Nat} (h : 2 ≤ n) (h2 : n ≤ 1000) : journal_room.f (n : Int) = some ((room n : Nat) : Int) := by
  unfold journal_room.f room
  rw [half_is h h2]
  congr 1
  rw [Int.natCast_mul]
  exact wrap64_id (by omega) (by omega)
def isHead (at' : Int) (n : Nat) (s : ByteArray) : Prop := 1 ≤ sT s ∧ sT s ≤ 1099511627776 ∧ (sT s).tmod 2 = at' ∧ sY s ≤ 1 ∧ sZ s ≤ ((room n : Nat) : Int) ∧ s = hdI (sT s) (sY s) (sZ s)
instance (a : Int) (n : Nat) (s : ByteArray) : Decidable (isHead a n s) := by unfold isHead; exact inferInstance
theorem sY_w (s : ByteArray) : wrap64 (bt s 5) = sY s := by
  have := bt_range s 5
  exact wrap64_id (by omega) (by omega)
theorem rep32 : (List.replicate 32 (0 : Int)).length = 32 := rfl
theorem read_false (k : Nat) (hk : 20 ≤ k) (a b c : Int) (x : List ByteArray × List S55 × Int × Int × Int × List ByteArray × List ByteArray × Bool) :
    ((journal_headOf.f k a b c).bind fun r1845 => (if r1845.length = 32 then (if (List.replicate 32 (0 : Int)).length = 32 then (some x) else none) else none)) = some x := by
  rw [headOf_tells k hk, Option.bind_some, if_pos (hL_len a b c), if_pos rep32]
theorem two_halves {s : ByteArray} (hs : s.size = 64) (a b c : Int) : s = hdI a b c ↔ hL a b c = (byI (s.extract 0 32)).take 32 ∧ hL a b c = (byI (s.extract 32 s.size)).take 32 := by
  have hl : (byI s).length = 64 := by rw [← size_byI]; exact hs
  have e1 : (byI (s.extract 0 32)).take 32 = (byI s).take 32 := by rw [byI_ext, List.drop_zero, List.take_take, Nat.min_self]
  have e2 : (byI (s.extract 32 s.size)).take 32 = (byI s).drop 32 := by
    rw [byI_ext, hs, List.take_of_length_le (i := 64) (by omega), List.take_of_length_le]
    rw [List.length_drop]
    omega
  rw [e1, e2]
  constructor
  · intro h
    have h2 : byI s = hL a b c ++ hL a b c := by rw [h, ← hdI_by, ← h]
    rw [h2]
    exact ⟨(List.take_left' (hL_len a b c)).symm, (List.drop_left' (hL_len a b c)).symm⟩
  · rintro ⟨h1, h2⟩
    apply byI_inj
    rw [hdI_by]
    conv => lhs; rw [← List.take_append_drop 32 (byI s)]
    rw [← h1, ← h2]
theorem read_j14 (k : Nat) (hk : 20 ≤ k) (at' : Int) (s : ByteArray) (hs : s.size = 64) (n : Nat) (h2 : 2 ≤ n) (h3 : n ≤ 1000) :
    journal_read.j14 k at' s (n : Int) (sT s) (sZ s) = some ([], [], sT s, sY s, sZ s, [], [], decide (isHead at' n s)) := by
  unfold journal_read.j14
  rw [sY_w]
  by_cases c1 : sT s ≥ 1
  · by_cases c2 : sT s ≤ 1099511627776
    · by_cases c3 : (sT s).tmod 2 = at'
      · by_cases c4 : sY s ≤ 1
        · rw [if_pos c1, if_pos c2, if_pos c3, if_pos c4, room_tells h2 h3, Option.bind_some, headOf_tells k hk, Option.bind_some, if_pos (hL_len _ _ _), if_pos rep32]
          have g1 : (32 : Int) ≤ (s.size : Int) := by omega
          have g2 : (s.extract 0 32).size ≤ 140737488355328 := by rw [ext_size _ _ _ (by omega)]; omega
          have g3 : 32 ≤ (byI (s.extract 0 32)).length := by rw [← size_byI, ext_size _ _ _ (by omega)]; omega
          have g4 : ((byI (s.extract 0 32)).take 32).length = 32 := by rw [List.length_take]; omega
          have g5 : (s.extract 32 s.size).size ≤ 140737488355328 := by rw [ext_size _ _ _ (by omega)]; omega
          have g6 : 32 ≤ (byI (s.extract 32 s.size)).length := by rw [← size_byI, ext_size _ _ _ (by omega)]; omega
          have g7 : ((byI (s.extract 32 s.size)).take 32).length = 32 := by rw [List.length_take]; omega
          have ht := two_halves hs (sT s) (sY s) (sZ s)
          by_cases c5 : sZ s ≤ ((room n : Nat) : Int)
          · rw [if_pos c5, if_pos g1, if_pos g2, if_pos g3, if_pos g4]
            by_cases c6 : hL (sT s) (sY s) (sZ s) = (byI (s.extract 0 32)).take 32
            · rw [if_pos c6, if_pos g5, if_pos g6, if_pos g7]
              by_cases c7 : hL (sT s) (sY s) (sZ s) = (byI (s.extract 32 s.size)).take 32
              · rw [decide_eq_true c7, decide_eq_true (p := isHead at' n s) ⟨c1, c2, c3, c4, c5, ht.2 ⟨c6, c7⟩⟩]
              · rw [decide_eq_false c7, decide_eq_false (p := isHead at' n s) fun h => c7 (ht.1 h.2.2.2.2.2).2]
            · rw [if_neg c6, decide_eq_false (p := isHead at' n s) fun h => c6 (ht.1 h.2.2.2.2.2).1]
          · rw [if_neg c5, decide_eq_false (p := isHead at' n s) fun h => c5 h.2.2.2.2.1]
        · rw [if_pos c1, if_pos c2, if_pos c3, if_neg c4, decide_eq_false (p := isHead at' n s) fun h => c4 h.2.2.2.1]
          exact read_false k hk _ _ _ _
      · rw [if_pos c1, if_pos c2, if_neg c3, decide_eq_false (p := isHead at' n s) fun h => c3 h.2.2.1]
        exact read_false k hk _ _ _ _
    · rw [if_pos c1, if_neg c2, decide_eq_false (p := isHead at' n s) fun h => c2 h.2.1]
      exact read_false k hk _ _ _ _
  · rw [if_neg c1, decide_eq_false (p := isHead at' n s) fun h => c1 h.1]
    exact read_false k hk _ _ _ _
theorem bt_w (s : ByteArray) (i : Nat) : wrap64 (bt s (i : Int)) = ((bn s i : Nat) : Int) := by
  rw [bt_bn]
  have := bn_lt s i
  exact wrap64_id (by omega) (by omega)
theorem read_l15 (k : Nat) (at' : Int) (s : ByteArray) (hs : s.size = 64) (n t : Int) (i m : Nat) (hi : i < 4) : journal_read.l15 k at' s n t (m + 1) (i : Int) ((num s 14 i : Nat) : Int) = journal_read.l15 k at' s n t m ((i + 1 : Nat) : Int) ((num s 14 (i + 1) : Nat) : Int) := by
  have e1 : wrap64 ((wrap64 ((5 : Int) + 9)) + (i : Int)) = ((14 + i : Nat) : Int) := by rw [wrap64_id (a := 5 + 9) (by omega) (by omega), wrap64_id (by omega) (by omega)]; omega
  have e2 : wrap64 ((i : Int) + 1) = ((i + 1 : Nat) : Int) := (wrap64_id (by omega) (by omega)).trans (by rfl)
  have p1 : (0 : Int) ≤ wrap64 (8 * (i : Int)) := by rw [wrap64_id (by omega) (by omega)]; omega
  have c1 : (i : Int) < 4 := by omega
  have c2 : ((14 + i : Nat) : Int) < (s.size : Int) := by omega
  have ho := or256 (num s 14 i) (bn s (14 + i)) i (by omega) (num_lt s 14 i) (bn_lt s _)
  have hw : wrap64 ((num s 14 i + bn s (14 + i) * 256 ^ i : Nat) : Int) = ((num s 14 (i + 1) : Nat) : Int) := num_small s 14 (i + 1) (by omega)
  rw [journal_read.l15, e1, e2, if_pos c1, if_pos (Int.natCast_nonneg _), if_pos c2, if_pos p1, bt_w, ho, hw]
theorem read_l11 (k : Nat) (at' : Int) (s : ByteArray) (hs : s.size = 64) (n : Int) (i m : Nat) (hi : i < 8) : journal_read.l11 k at' s n (m + 1) (i : Int) ((num s 6 i : Nat) : Int) = journal_read.l11 k at' s n m ((i + 1 : Nat) : Int) (wrap64 ((num s 6 (i + 1) : Nat) : Int)) := by
  have e1 : wrap64 ((wrap64 ((5 : Int) + 1)) + (i : Int)) = ((6 + i : Nat) : Int) := by rw [wrap64_id (a := 5 + 1) (by omega) (by omega), wrap64_id (by omega) (by omega)]; omega
  have e2 : wrap64 ((i : Int) + 1) = ((i + 1 : Nat) : Int) := (wrap64_id (by omega) (by omega)).trans (by rfl)
  have p1 : (0 : Int) ≤ wrap64 (8 * (i : Int)) := by rw [wrap64_id (by omega) (by omega)]; omega
  have c1 : (i : Int) < 8 := by omega
  have c2 : ((6 + i : Nat) : Int) < (s.size : Int) := by omega
  have ho := or256 (num s 6 i) (bn s (6 + i)) i (by omega) (num_lt s 6 i) (bn_lt s _)
  rw [journal_read.l11, e1, e2, if_pos c1, if_pos (Int.natCast_nonneg _), if_pos c2, if_pos p1, bt_w, ho]
  rfl
theorem read_tells' (k : Nat) (hk : 20 ≤ k) (at' : Int) (s : ByteArray) (hs : s.size = 64) (n : Nat) (h2 : 2 ≤ n) (h3 : n ≤ 1000) :
    journal_read.f k at' s (n : Int) = some ([], [], sT s, sY s, sZ s, [], [], decide (isHead at' n s)) := by
  obtain ⟨k, rfl⟩ : ∃ q, k = q + 20 := ⟨k - 20, by omega⟩
  unfold journal_read.f
  rw [if_pos (by omega)]
  have st : ∀ i m : Nat, i < 7 → journal_read.l11 (k + 20) at' s (n : Int) (m + 1) (i : Int) ((num s 6 i : Nat) : Int) = journal_read.l11 (k + 20) at' s (n : Int) m ((i + 1 : Nat) : Int) ((num s 6 (i + 1) : Nat) : Int) := by
    intro i m hi
    rw [read_l11 (k + 20) at' s hs n i m (by omega), num_small s 6 (i + 1) (by omega)]
  refine (st 0 (k + 19) (by decide)).trans ?_
  refine (st 1 (k + 18) (by decide)).trans ?_
  refine (st 2 (k + 17) (by decide)).trans ?_
  refine (st 3 (k + 16) (by decide)).trans ?_
  refine (st 4 (k + 15) (by decide)).trans ?_
  refine (st 5 (k + 14) (by decide)).trans ?_
  refine (st 6 (k + 13) (by decide)).trans ?_
  refine (read_l11 (k + 20) at' s hs n 7 (k + 12) (by decide)).trans ?_
  rw [journal_read.l11, if_neg (by decide)]
  unfold journal_read.j10
  have st2 := read_l15 (k + 20) at' s hs (n : Int) (sT s)
  refine (st2 0 (k + 19) (by decide)).trans ?_
  refine (st2 1 (k + 18) (by decide)).trans ?_
  refine (st2 2 (k + 17) (by decide)).trans ?_
  refine (st2 3 (k + 16) (by decide)).trans ?_
  rw [journal_read.l15, if_neg (by decide)]
  exact read_j14 (k + 20) (by omega) at' s hs n h2 h3
/-- The numbers of a head. -/
theorem head_nums {s : ByteArray} {x y z : Nat} (h : s = hdI x y z) (hx : x < 9223372036854775808) (hy : y < 256) (hz : z < 4294967296) : sT s = x ∧ sY s = y ∧ sZ s = z := by
  have hb : byI s = hL x y z ++ hL x y z := by rw [h, hdI_by]
  have hB' : ∀ (x i : Nat), hB (x : Int) i = ((x / 256 ^ i % 256 : Nat) : Int) := by
    intro x i
    unfold hB
    have e : (2 : Int) ^ (8 * i) = ((256 ^ i : Nat) : Int) := by rw [Int.pow_mul, Int.natCast_pow]; rfl
    rw [e, Int.fdiv_eq_ediv_of_nonneg _ (Int.natCast_nonneg _), IntKind.wrap_u8, ← Int.natCast_ediv]
    generalize x / 256 ^ i = q
    omega
  have hbn : ∀ i v, (hL x y z ++ hL x y z)[i]? = some ((v : Nat) : Int) → bn s i = v := by
    intro i v hv
    have := bt_of (s := s) (i := i) (by rw [hb]; exact hv)
    rw [bt_bn] at this
    omega
  have b : ∀ i, i < 8 → bn s (6 + i) = x / 256 ^ i % 256 := by
    intro i hi
    refine hbn _ _ ?_
    rw [← hB']
    match i, hi with
    | 0, _ => rfl
    | 1, _ => rfl
    | 2, _ => rfl
    | 3, _ => rfl
    | 4, _ => rfl
    | 5, _ => rfl
    | 6, _ => rfl
    | 7, _ => rfl
  have b2 : ∀ i, i < 4 → bn s (14 + i) = z / 256 ^ i % 256 := by
    intro i hi
    refine hbn _ _ ?_
    rw [← hB']
    match i, hi with
    | 0, _ => rfl
    | 1, _ => rfl
    | 2, _ => rfl
    | 3, _ => rfl
  have hn : ∀ (v o n : Nat), (∀ i, i < n → bn s (o + i) = v / 256 ^ i % 256) → num s o n = v % 256 ^ n := by
    intro v o n
    induction n with
    | zero => intro _; rw [num, Nat.pow_zero, Nat.mod_one]
    | succ n ih =>
      intro hh
      rw [num, ih fun i hi => hh i (by omega), hh n (by omega), Nat.pow_succ, Nat.mod_mul, Nat.mul_comm]
  refine ⟨?_, ?_, ?_⟩
  · unfold sT
    have h8 : (256 : Nat) ^ 8 = 18446744073709551616 := by decide +kernel
    rw [hn x 6 8 b, h8, Nat.mod_eq_of_lt (by omega)]
    exact wrap64_id (by omega) (by omega)
  · unfold sY
    have : bn s 5 = y := by
      refine hbn 5 y ?_
      show some (IntKind.u8.wrap (y : Int)) = some (y : Int)
      rw [w8 (by omega) (by omega)]
    have e := bt_bn s 5
    rw [this] at e
    exact e
  · unfold sZ
    have h4 : (256 : Nat) ^ 4 = 4294967296 := by decide +kernel
    rw [hn z 14 4 b2, h4, Nat.mod_eq_of_lt hz]
theorem eq_r1 (k : Nat) (l0 l1 : List ByteArray) : ∀ (xs : List ByteArray) (i : Nat), xs.length + i = l1.length → slices_Equal_string_string.r1 k l0 l1 xs i = some (decide (xs = l1.drop i))
  | [], i, h => by
    rw [slices_Equal_string_string.r1, List.drop_of_length_le (by simp at h; omega), decide_eq_true rfl]
  | x :: xs, i, h => by
    rw [List.length_cons] at h
    have hi : i < l1.length := by omega
    have hd : l1.drop i = l1[i] :: l1.drop (i + 1) := List.drop_eq_getElem_cons hi
    rw [slices_Equal_string_string.r1, Int.toNat_natCast, List.getElem?_eq_getElem hi, Option.bind_some, beq_is, hd]
    by_cases hx : x = l1[i]
    · rw [if_pos (decide_eq_true hx), eq_r1 k l0 l1 xs (i + 1) (by omega)]
      congr 1
      rw [decide_eq_decide]
      constructor
      · intro e; rw [hx, e]
      · intro e; exact (List.cons.inj e).2
    · rw [if_neg (by rw [decide_eq_false hx]; decide), decide_eq_false fun e => hx (List.cons.inj e).1]
theorem eq_tells (k : Nat) (a b : List ByteArray) (hk : a.length < k) (hs : a.length ≤ 1000000) : slices_Equal_string_string.f k a b = some (decide (a = b)) := by
  unfold slices_Equal_string_string.f
  by_cases hl : a.length = b.length
  · have h := slices_Equal_string_string.r1_eq k a b (by omega) k 0 (by omega) (Nat.zero_le _)
    rw [List.drop_zero, eq_r1 k a b a 0 (by omega), List.drop_zero] at h
    rw [if_pos (by omega)]
    exact h
  · rw [if_neg (by omega), decide_eq_false fun e => hl (congrArg List.length e)]
theorem same_r1 (k : Nat) (l0 l1 : List ByteArray) : ∀ (xs : List ByteArray) (i : Nat), xs.length + i = l1.length → tarryref01_Same.r1 k l0 l1 xs i = some (decide (xs = l1.drop i))
  | [], i, h => by
    rw [tarryref01_Same.r1, List.drop_of_length_le (by simp at h; omega), decide_eq_true rfl]
  | x :: xs, i, h => by
    rw [List.length_cons] at h
    have hi : i < l1.length := by omega
    have hd : l1.drop i = l1[i] :: l1.drop (i + 1) := List.drop_eq_getElem_cons hi
    rw [tarryref01_Same.r1, Int.toNat_natCast, List.getElem?_eq_getElem hi, Option.bind_some, beq_is, hd]
    by_cases hx : x = l1[i]
    · rw [if_pos (decide_eq_true hx), same_r1 k l0 l1 xs (i + 1) (by omega)]
      congr 1
      rw [decide_eq_decide]
      constructor
      · intro e; rw [hx, e]
      · intro e; exact (List.cons.inj e).2
    · rw [if_neg (by rw [decide_eq_false hx]; decide), decide_eq_false fun e => hx (List.cons.inj e).1]
theorem same_tells (k : Nat) (a b : List ByteArray) (hk : a.length < k) (hs : a.length ≤ 1000000) : tarryref01_Same.f k a b = some (decide (a = b)) := by
  unfold tarryref01_Same.f
  by_cases hl : a.length = b.length
  · have h := tarryref01_Same.r1_eq k a b (by omega) k 0 (by omega) (Nat.zero_le _)
    rw [List.drop_zero, same_r1 k a b a 0 (by omega), List.drop_zero] at h
    rw [if_pos (by omega)]
    exact h
  · rw [if_neg (by omega), decide_eq_false fun e => hl (congrArg List.length e)]
/-! ### opening -/
def scanF : Nat → ByteArray → List ByteArray × ByteArray
  | 0, s => ([], s)
  | n + 1, s => match fStep s with
    | none => ([], s)
    | some p => (p.1 :: (scanF n p.2).1, (scanF n p.2).2)
theorem fStep_nil {s : ByteArray} (h : s.size = 0) : fStep s = none := by
  cases hq : fStep s with
  | none => rfl
  | some p =>
    have := step_less (s := s) (d := p.1) (r := p.2) hq
    omega
theorem scanF_is : ∀ (n : Nat) (s : ByteArray), s.size ≤ n → Scans s (scanF n s).1 (scanF n s).2
  | 0, s, h => .nil (fStep_nil (by omega))
  | n + 1, s, h => by
    rw [scanF]
    cases hq : fStep s with
    | none => exact .nil hq
    | some p =>
      have := step_less (s := s) (d := p.1) (r := p.2) hq
      exact .cons hq (scanF_is n p.2 (by omega))
def recs (s : ByteArray) : List ByteArray × ByteArray := scanF s.size s
theorem recs_is (s : ByteArray) : Scans s (recs s).1 (recs s).2 := scanF_is s.size s (Nat.le_refl _)
theorem recs_whole {l : List ByteArray} (h : ∀ d ∈ l, d.size ≤ 4096) : recs (whole l) = (l, ⟨#[]⟩) := by
  have h1 := Scans.of (Scans.nil (fStep_nil (s := ⟨#[]⟩) rfl)) l h
  rw [app_nil, List.append_nil] at h1
  obtain ⟨h2, h3⟩ := (recs_is (whole l)).det h1
  exact Prod.ext h2 h3
theorem recs_inv {s : ByteArray} (h : (recs s).2.size = 0) : s = whole (recs s).1 ∧ ∀ d ∈ (recs s).1, d.size ≤ 4096 := by
  obtain ⟨h1, h2, _⟩ := (recs_is s).is
  rw [size_zero h, app_nil] at h1
  exact ⟨h1, h2⟩
def cat : List ByteArray → ByteArray
  | [] => ⟨#[]⟩
  | s :: l => s ++ cat l
theorem cat_data : ∀ l : List ByteArray, (cat l).data.toList = (l.map (·.data.toList)).flatten
  | [] => rfl
  | s :: l => by rw [cat, ByteArray.data_append, Array.toList_append, cat_data l, List.map_cons, List.flatten_cons]
theorem cat_app : ∀ l m : List ByteArray, cat (l ++ m) = cat l ++ cat m
  | [], m => (nil_app _).symm
  | s :: l, m => by rw [List.cons_append, cat, cat, cat_app l m, app_assoc]
theorem cat_size : ∀ {l : List ByteArray}, (∀ x ∈ l, x.size = 64) → (cat l).size = 64 * l.length
  | [], _ => rfl
  | s :: l, h => by
    have h1 := h s (List.mem_cons_self ..)
    have h2 := cat_size (l := l) fun x hx => h x (List.mem_cons_of_mem _ hx)
    rw [cat, app_size, h1, h2, List.length_cons]
    omega
theorem join_cat (l : List ByteArray) : (⟨(Go.Lib.join (l.map (·.data.toList)) (⟨#[]⟩ : ByteArray).data.toList).toArray⟩ : ByteArray) = cat l := by
  have h : Go.Lib.join (l.map (·.data.toList)) [] = (cat l).data.toList := by
    rw [cat_data]
    cases l with
    | nil => rfl
    | cons x xs =>
      rw [List.map_cons, Go.Lib.join_cons]
      unfold Go.Lib.joinTail
      rw [List.flatten_cons]
      congr 2
      conv => rhs; rw [← List.map_id (xs.map _)]
      exact List.map_congr_left fun y _ => rfl
  show (⟨(Go.Lib.join (l.map (·.data.toList)) []).toArray⟩ : ByteArray) = cat l
  rw [h]
theorem join_tells {l : List ByteArray} (h1 : l.length ≤ 1000000) (h2 : (cat l).size ≤ 1000000) : strings_Join.f l (⟨#[]⟩ : ByteArray) = some (cat l) := by
  have e := join_cat l
  have e2 : (Go.Lib.join (l.map (·.data.toList)) (⟨#[]⟩ : ByteArray).data.toList).length = (cat l).size := by
    rw [← e]
    rfl
  unfold strings_Join.f
  rw [if_pos ⟨by omega, by rw [e2]; omega⟩, e]
def best (ss : List ByteArray) : Int × Int × Int :=
  let b := if isHead 0 ss.length (ss.getD 0 ⟨#[]⟩) then (sT (ss.getD 0 ⟨#[]⟩), sY (ss.getD 0 ⟨#[]⟩), sZ (ss.getD 0 ⟨#[]⟩)) else (0, 0, 0)
  if isHead 1 ss.length (ss.getD 1 ⟨#[]⟩) ∧ sT (ss.getD 1 ⟨#[]⟩) > b.1 then (sT (ss.getD 1 ⟨#[]⟩), sY (ss.getD 1 ⟨#[]⟩), sZ (ss.getD 1 ⟨#[]⟩)) else b
def hf (ss : List ByteArray) : Nat := (ss.length - 2) / 2
def secs (ss : List ByteArray) (y : Nat) : List ByteArray := (ss.drop (2 + y * hf ss)).take (hf ss)
def byts (ss : List ByteArray) (y z : Nat) : ByteArray := (cat (secs ss y)).extract 0 z
def opn (ss : List ByteArray) (ws : List S55) : Except Int (Int × Int × Int × List ByteArray) :=
  if rightB ss ws = true ∧ 8 ≤ ss.length ∧ ws = [] then (if (best ss).1 = 0 then .error 5 else if (recs (byts ss (best ss).2.1.toNat (best ss).2.2.toNat)).2.size = 0 then .ok ((best ss).1, (best ss).2.1, (best ss).2.2, (recs (byts ss (best ss).2.1.toNat (best ss).2.2.toNat)).1) else .error 6) else .error 1
def outO (ss : List ByteArray) (ws : List S55) : Except Int (Int × Int × Int × List ByteArray) → List ByteArray × List S55 × Int × Int × Int × List ByteArray × List ByteArray × Int
  | .ok p => (ss, ws, p.1, p.2.1, p.2.2.1, [], p.2.2.2, 0)
  | .error e => ([], [], 0, 0, 0, [], [], e)
theorem sY_range (s : ByteArray) : 0 ≤ sY s ∧ sY s < 256 := bt_range s 5
theorem best_0 {ss : List ByteArray} (h0 : ¬ isHead 0 ss.length (ss.getD 0 ⟨#[]⟩)) (h1 : ¬ isHead 1 ss.length (ss.getD 1 ⟨#[]⟩)) : best ss = (0, 0, 0) := by
  unfold best
  rw [if_neg h0]
  exact if_neg fun h => h1 h.1
theorem best_1 {ss : List ByteArray} (h0 : ¬ isHead 0 ss.length (ss.getD 0 ⟨#[]⟩)) (h1 : isHead 1 ss.length (ss.getD 1 ⟨#[]⟩)) : best ss = (sT (ss.getD 1 ⟨#[]⟩), sY (ss.getD 1 ⟨#[]⟩), sZ (ss.getD 1 ⟨#[]⟩)) := by
  unfold best
  rw [if_neg h0]
  exact if_pos ⟨h1, Int.lt_of_lt_of_le (by decide) h1.1⟩
theorem best_2 {ss : List ByteArray} (h0 : isHead 0 ss.length (ss.getD 0 ⟨#[]⟩)) (h1 : ¬ (isHead 1 ss.length (ss.getD 1 ⟨#[]⟩) ∧ sT (ss.getD 1 ⟨#[]⟩) > sT (ss.getD 0 ⟨#[]⟩))) : best ss = (sT (ss.getD 0 ⟨#[]⟩), sY (ss.getD 0 ⟨#[]⟩), sZ (ss.getD 0 ⟨#[]⟩)) := by
  unfold best
  rw [if_pos h0]
  exact if_neg h1
theorem best_3 {ss : List ByteArray} (h0 : isHead 0 ss.length (ss.getD 0 ⟨#[]⟩)) (h1 : isHead 1 ss.length (ss.getD 1 ⟨#[]⟩) ∧ sT (ss.getD 1 ⟨#[]⟩) > sT (ss.getD 0 ⟨#[]⟩)) : best ss = (sT (ss.getD 1 ⟨#[]⟩), sY (ss.getD 1 ⟨#[]⟩), sZ (ss.getD 1 ⟨#[]⟩)) := by
  unfold best
  rw [if_pos h0]
  exact if_pos h1
/-- What the better head tells. -/
theorem best_ok (ss : List ByteArray) : (best ss).1 = 0 ∨ (1 ≤ (best ss).1 ∧ (best ss).1 ≤ 1099511627776 ∧ 0 ≤ (best ss).2.1 ∧ (best ss).2.1 ≤ 1 ∧ 0 ≤ (best ss).2.2 ∧ (best ss).2.2 ≤ ((room ss.length : Nat) : Int)) := by
  have key : ∀ (a : Int) (s : ByteArray), isHead a ss.length s → (1 ≤ sT s ∧ sT s ≤ 1099511627776 ∧ 0 ≤ sY s ∧ sY s ≤ 1 ∧ 0 ≤ sZ s ∧ sZ s ≤ ((room ss.length : Nat) : Int)) := fun a s h => ⟨h.1, h.2.1, (sY_range s).1, h.2.2.2.1, Int.natCast_nonneg _, h.2.2.2.2.1⟩
  by_cases h0 : isHead 0 ss.length (ss.getD 0 ⟨#[]⟩)
  · by_cases h1 : isHead 1 ss.length (ss.getD 1 ⟨#[]⟩) ∧ sT (ss.getD 1 ⟨#[]⟩) > sT (ss.getD 0 ⟨#[]⟩)
    · rw [best_3 h0 h1]
      exact .inr (key _ _ h1.1)
    · rw [best_2 h0 h1]
      exact .inr (key _ _ h0)
  · by_cases h1 : isHead 1 ss.length (ss.getD 1 ⟨#[]⟩)
    · rw [best_1 h0 h1]
      exact .inr (key _ _ h1)
    · rw [best_0 h0 h1]
      exact .inl rfl
theorem secs_in {ss : List ByteArray} {y : Nat} {x : ByteArray} (h : x ∈ secs ss y) : x ∈ ss := List.mem_of_mem_drop (List.mem_of_mem_take h)
theorem secs_len {ss : List ByteArray} {y : Nat} (hy : y ≤ 1) (h : 8 ≤ ss.length) : (secs ss y).length = hf ss := by
  unfold secs hf
  rw [List.length_take, List.length_drop]
  have : y * ((ss.length - 2) / 2) ≤ (ss.length - 2) / 2 := by
    have := Nat.mul_le_mul_right ((ss.length - 2) / 2) hy
    omega
  omega
theorem begin_tells {n : Nat} (h2 : 2 ≤ n) (h3 : n ≤ 1000) (y H : Nat) (hH : (n - 2) / 2 = H) (hy : y ≤ 1) : journal_begin.f (n : Int) (y : Int) = some ((2 + y * H : Nat) : Int) := by
  have hh := half_is h2 h3
  rw [hH] at hh
  have hyh : y * H ≤ 1 * H := Nat.mul_le_mul_right H hy
  have e : (y : Int) * (H : Int) = ((y * H : Nat) : Int) := (Int.natCast_mul y H).symm
  have hHl : H ≤ 500 := by omega
  unfold journal_begin.f
  rw [hh, e]
  generalize y * H = q at hyh
  congr 1
  rw [wrap64_id (a := (q : Int)) (by omega) (by omega), wrap64_id (by omega) (by omega)]
  omega
theorem open_j7 (k : Nat) (hk : 20000 ≤ k) (ss : List ByteArray) (h8 : 8 ≤ ss.length) (h5 : ss.length ≤ 512) (hs : ∀ x ∈ ss, x.size = 64) (x : Int) (y z : Nat) (hy : y ≤ 1) (hz : z ≤ room ss.length) (hx : x ≠ 0) :
    journal_Open.j7 k ss [] [] [] x y z [] [] = some (if (recs (byts ss y z)).2.size = 0 then (ss, [], x, (y : Int), (z : Int), [], (recs (byts ss y z)).1, 0) else ([], [], 0, 0, 0, [], [], 6)) := by
  have hh := half_is (n := ss.length) (by omega) (by omega)
  have hb := begin_tells (n := ss.length) (by omega) (by omega) y (hf ss) rfl hy
  have hH : (ss.length - 2) / 2 = hf ss := rfl
  have hroom : room ss.length = hf ss * 64 := rfl
  rw [hH] at hh
  have hyh : y * hf ss ≤ 1 * hf ss := Nat.mul_le_mul_right (hf ss) hy
  have hsl := secs_len hy h8
  have hcs := cat_size (l := secs ss y) fun x hx => hs x (secs_in hx)
  have e2 : (ss.take (2 + y * hf ss + hf ss)).drop (2 + y * hf ss) = secs ss y := by
    unfold secs
    rw [List.drop_take, Nat.add_sub_cancel_left]
  have e3 : (cat (secs ss y)).extract 0 z = byts ss y z := rfl
  have hrs := recs_is (byts ss y z)
  rw [hsl] at hcs
  rw [hroom] at hz
  have hzr : z ≤ (cat (secs ss y)).size := by rw [hcs]; omega
  have hbs : (byts ss y z).size = z := by rw [← e3, ext_size _ _ _ hzr, Nat.sub_zero]
  generalize byts ss y z = bb at *
  generalize secs ss y = sl at *
  generalize y * hf ss = q at *
  generalize hf ss = H at *
  have hl1 : H ≤ 255 := by omega
  have hl2 : 2 + 2 * H ≤ ss.length := by omega
  have hj := join_tells (l := sl) (by omega) (by omega)
  have ha := all_tells hrs k (by omega) (by omega) (by omega)
  have c1 : (0 : Int) ≤ ((2 + q : Nat) : Int) := Int.natCast_nonneg _
  have c2 : (0 : Int) ≤ ((2 + q + H : Nat) : Int) := Int.natCast_nonneg _
  have c3 : ((2 + q + H : Nat) : Int) ≤ (ss.length : Int) := by omega
  have c4 : ((2 + q : Nat) : Int) ≤ ((2 + q + H : Nat) : Int) := by omega
  have c5 : (z : Int) ≤ ((cat sl).size : Int) := by omega
  have e1 : wrap64 (((2 + q : Nat) : Int) + (H : Int)) = ((2 + q + H : Nat) : Int) := by
    rw [← Int.natCast_add]
    exact wrap64_id (by omega) (by omega)
  unfold journal_Open.j7
  rw [if_neg hx, hb, Option.bind_some, hh, e1, if_pos c1, if_pos c2, if_pos c3, if_pos c4, Int.toNat_natCast, Int.toNat_natCast, e2, hj, Option.bind_some, if_pos (Int.natCast_nonneg _), if_pos c5, Int.toNat_natCast, e3, ha, Option.bind_some]
  by_cases h0 : (recs bb).2.size = 0
  · rw [if_pos h0, if_pos h0]
    rfl
  · rw [if_neg h0, if_neg h0]
    rfl
theorem open_fin (k : Nat) (hk : 20000 ≤ k) (ss : List ByteArray) (h8 : 8 ≤ ss.length) (r2 : ss.length ≤ 512) (r4 : ∀ x ∈ ss, x.size = 64) : journal_Open.j7 k ss [] [] [] (best ss).1 (best ss).2.1 (best ss).2.2 [] [] = some (outO ss [] (if (best ss).1 = 0 then .error 5 else if (recs (byts ss (best ss).2.1.toNat (best ss).2.2.toNat)).2.size = 0 then .ok ((best ss).1, (best ss).2.1, (best ss).2.2, (recs (byts ss (best ss).2.1.toNat (best ss).2.2.toNat)).1) else .error 6)) := by
  rcases best_ok ss with hb | ⟨b1, b2, b3, b4, b5, b6⟩
  · rw [if_pos hb]
    unfold journal_Open.j7
    rw [if_pos hb]
    rfl
  · generalize best ss = p at b1 b2 b3 b4 b5 b6 ⊢
    obtain ⟨x, y, z⟩ := p
    simp only at b1 b2 b3 b4 b5 b6 ⊢
    obtain ⟨y, rfl⟩ := Int.eq_ofNat_of_zero_le b3
    obtain ⟨z, rfl⟩ := Int.eq_ofNat_of_zero_le b5
    rw [if_neg (by omega), Int.toNat_natCast, Int.toNat_natCast, open_j7 k hk ss h8 r2 r4 x y z (by omega) (by omega) (by omega)]
    by_cases h0 : (recs (byts ss y z)).2.size = 0
    · rw [if_pos h0, if_pos h0]
      rfl
    · rw [if_neg h0, if_neg h0]
      rfl
theorem open_tells (k : Nat) (hk : 20000 ≤ k) (hk2 : k ≤ 1000000) (ss : List ByteArray) (ws : List S55) (h1 : ss.length < k) (h2 : ws.length < k) : journal_Open.f k ss ws = some (outO ss ws (opn ss ws)) := by
  unfold journal_Open.f opn
  rw [right_tells k ss ws h1 h2 hk2, Option.bind_some]
  by_cases hr : rightB ss ws = true
  · rw [if_pos hr]
    obtain ⟨⟨r1, r2, r3⟩, r4, r5⟩ := rightB_is.1 hr
    by_cases h8 : ss.length < 8
    · rw [if_pos (by omega), if_neg (by rintro ⟨_, h, _⟩; omega)]
      unfold journal_Open.j4
      rfl
    · rw [if_neg (by omega)]
      by_cases hw : ws = []
      · subst hw
        rw [if_pos ⟨hr, by omega, rfl⟩]
        have g0 : ss[0]? = some (ss.getD 0 ⟨#[]⟩) := by rw [List.getD_eq_getElem?_getD, List.getElem?_eq_getElem (by omega)]; rfl
        have g1 : ss[1]? = some (ss.getD 1 ⟨#[]⟩) := by rw [List.getD_eq_getElem?_getD, List.getElem?_eq_getElem (by omega)]; rfl
        have z0 := r4 _ (List.mem_of_getElem? g0)
        have z1 := r4 _ (List.mem_of_getElem? g1)
        have q0 : ((ss.take 2).drop 0)[(0 : Int).toNat]? = some (ss.getD 0 ⟨#[]⟩) := by rw [List.drop_zero, ← g0]; exact List.getElem?_take_of_lt (by decide)
        have q1 : ((ss.take 2).drop 0)[(1 : Int).toNat]? = some (ss.getD 1 ⟨#[]⟩) := by rw [List.drop_zero, ← g1]; exact List.getElem?_take_of_lt (by decide)
        have ql : (((ss.take 2).drop 0).length : Int) = 2 := by rw [List.drop_zero, List.length_take]; omega
        have w1 : wrap64 ((0 : Int) + 1) = 1 := by decide +kernel
        have w2 : wrap64 ((1 : Int) + 1) = 2 := by decide +kernel
        have f0 := read_tells' k (by omega) 0 _ z0 ss.length (by omega) (by omega)
        have f1 := read_tells' k (by omega) 1 _ z1 ss.length (by omega) (by omega)
        obtain ⟨m, rfl⟩ : ∃ q, k = q + 3 := ⟨k - 3, by omega⟩
        have fin := open_fin (m + 3) hk ss (by omega) r2 r4
        have last : ∀ x y z : Int, journal_Open.l8 (m + 3) ss [] (m + 1) 2 [] [] x y z [] [] = journal_Open.j7 (m + 3) ss [] [] [] x y z [] [] := by
          intro x y z
          rw [journal_Open.l8, ql, if_neg (by decide)]
        refine Eq.trans ?_ fin
        unfold journal_Open.j4
        have hdec : decide ((([] : List S55).length : Int) > 0) = false := by decide
        rw [hdec, if_neg (by decide), if_pos (by omega)]
        rw [journal_Open.l8, ql, if_pos (by decide), if_pos (by decide), q0, Option.bind_some, f0, Option.bind_some]
        by_cases i0 : isHead 0 ss.length (ss.getD 0 ⟨#[]⟩)
        · have p0 : sT (ss.getD 0 ⟨#[]⟩) > 0 := Int.lt_of_lt_of_le (by decide) i0.1
          simp only [decide_eq_true i0, w1]
          rw [if_pos trivial, if_pos p0, journal_Open.l8, ql, if_pos (by decide), if_pos (by decide), q1, Option.bind_some, f1, Option.bind_some]
          by_cases i1 : isHead 1 ss.length (ss.getD 1 ⟨#[]⟩)
          · simp only [decide_eq_true i1, w2]
            rw [if_pos trivial]
            by_cases p1 : sT (ss.getD 1 ⟨#[]⟩) > sT (ss.getD 0 ⟨#[]⟩)
            · rw [if_pos p1, last, best_3 i0 ⟨i1, p1⟩]
            · rw [if_neg p1, last, best_2 i0 fun h => p1 h.2]
          · simp only [decide_eq_false i1, w2]
            rw [if_neg (by decide), last, best_2 i0 fun h => i1 h.1]
        · simp only [decide_eq_false i0, w1]
          rw [if_neg (by decide), journal_Open.l8, ql, if_pos (by decide), if_pos (by decide), q1, Option.bind_some, f1, Option.bind_some]
          by_cases i1 : isHead 1 ss.length (ss.getD 1 ⟨#[]⟩)
          · have p1 : sT (ss.getD 1 ⟨#[]⟩) > 0 := Int.lt_of_lt_of_le (by decide) i1.1
            simp only [decide_eq_true i1, w2]
            rw [if_pos trivial, if_pos p1, last, best_1 i0 i1]
          · simp only [decide_eq_false i1, w2]
            rw [if_neg (by decide), last, best_0 i0 i1]
      · have hwl : ((ws.length : Int) > 0) := by
          cases ws with
          | nil => exact absurd rfl hw
          | cons w ws => simp only [List.length_cons]; omega
        rw [if_neg (by rintro ⟨_, _, h⟩; exact hw h), decide_eq_true hwl]
        unfold journal_Open.j4
        rfl
  · rw [if_neg hr, if_neg (by rintro ⟨h, _⟩; exact hr h)]
    unfold journal_Open.j4
    rfl
/-! ### which journals may be -/
theorem whole_fold (q : ByteArray → ByteArray) : ∀ (l : List ByteArray) (a : ByteArray), (∀ s ∈ l, q s = frm s) → (l.map q).foldl (fun r s => r ++ s) a = a ++ whole l
  | [], a, _ => (app_nil a).symm
  | s :: l, a, h => by
    rw [List.map_cons, List.foldl_cons, whole_fold q l _ (fun x hx => h x (List.mem_cons_of_mem _ hx)), h s (List.mem_cons_self ..), whole, app_assoc]
theorem whole_app : ∀ l m : List ByteArray, whole (l ++ m) = whole l ++ whole m
  | [], m => (nil_app _).symm
  | d :: l, m => by rw [List.cons_append, whole, whole, whole_app l m, app_assoc]
theorem whole_le : ∀ {l : List ByteArray} {c : Nat}, (∀ d ∈ l, d.size ≤ c) → c ≤ 1000000 → (whole l).size ≤ l.length * (c + 13)
  | [], _, _, _ => by rw [whole]; exact Nat.zero_le _
  | d :: l, c, h, hc => by
    have h1 := h d (List.mem_cons_self ..)
    have h2 := (frm_size (d := d) (by omega)).2
    have h3 := whole_le (l := l) (fun x hx => h x (List.mem_cons_of_mem _ hx)) hc
    rw [whole, app_size, List.length_cons, Nat.add_mul]
    generalize (frm d).size = u at h2 ⊢
    generalize (whole l).size = v at h3 ⊢
    omega
theorem frames_tells (k : Nat) (hk : 5000 ≤ k) {l : List ByteArray} (h : ∀ s ∈ l, s.size ≤ 4096) (hl : l.length ≤ 1000000) : journal_frames.f k l = some (whole l) := by
  have hq : ∀ s ∈ l, journal_frames.q k s = frm s := by
    intro s hs
    have := h s hs
    unfold journal_frames.q
    rw [frame_tells k hk s (by omega), if_pos this]
    rfl
  have hf : (l.map (journal_frames.q k)).foldl (fun r s => r ++ s) (⟨#[]⟩ : ByteArray) = whole l := by rw [whole_fold _ _ _ hq, nil_app]
  have hw := whole_le h (by decide)
  have ha : l.all (fun s => (frame_Frame.f k s).isSome) = true := by
    rw [List.all_eq_true]
    intro s hs
    have := h s hs
    rw [frame_tells k hk s (by omega)]
    rfl
  unfold journal_frames.f
  rw [hf]
  refine if_pos ⟨by omega, ha, ?_⟩
  generalize (whole l).size = v at hw ⊢
  omega
def longs (l : List ByteArray) : Bool := l.any fun s => decide (1000 < s.size)
theorem idx_long (k : Nat) (l : List ByteArray) : ∀ (xs : List ByteArray) (i : Nat), ∃ n : Int, slices_IndexFunc_string_string_s47.r1 k l xs i = some n ∧ decide (n ≥ 0) = longs xs
  | [], i => ⟨-1, rfl, rfl⟩
  | x :: xs, i => by
    rw [slices_IndexFunc_string_string_s47.r1, journal_waits_1.f, Option.bind_some]
    by_cases h : 1000 < x.size
    · refine ⟨i, if_pos (decide_eq_true (by omega)), ?_⟩
      unfold longs
      rw [List.any_cons, decide_eq_true h, Bool.true_or]
      exact decide_eq_true (Int.natCast_nonneg _)
    · obtain ⟨n, h1, h2⟩ := idx_long k l xs (i + 1)
      refine ⟨n, (if_neg (by rw [decide_eq_false (by omega)]; decide)).trans h1, ?_⟩
      rw [h2]
      unfold longs
      rw [List.any_cons, decide_eq_false h, Bool.false_or]
theorem longs_tells (k : Nat) (l : List ByteArray) (hk : l.length < k) (hl : l.length ≤ 1000000) : slices_ContainsFunc_string_string_s47.f k l = some (longs l) := by
  obtain ⟨n, h1, h2⟩ := idx_long k l l 0
  have h := slices_IndexFunc_string_string_s47.r1_eq k l (by omega) k 0 (by omega) (Nat.zero_le _)
  rw [List.drop_zero, h1] at h
  have h3 : slices_IndexFunc_string_string_s47.l1 k l k 0 = some n := h
  unfold slices_ContainsFunc_string_string_s47.f slices_IndexFunc_string_string_s47.f
  rw [h3, Option.bind_some, h2]
theorem longs_not {l : List ByteArray} (h : longs l = false) : ∀ s ∈ l, s.size ≤ 1000 := by
  intro s hs
  unfold longs at h
  rw [List.any_eq_false] at h
  have := h s hs
  simpa using this
theorem longs_of {l : List ByteArray} (h : ∀ s ∈ l, s.size ≤ 1000) : longs l = false := by
  unfold longs
  rw [List.any_eq_false]
  intro s hs
  have := h s hs
  simpa using this
/-- Why records can't wait. -/
def wts (n z : Nat) (l : List ByteArray) : Int := if longs l = true then 3 else if 16 < l.length ∨ 3000 < (whole l).size ∨ room n < z + (whole l).size then 7 else 0
theorem room_le {n : Nat} (h : n ≤ 512) : room n ≤ 16320 := by unfold room; omega
theorem waits_tells (k : Nat) (hk : 5000 ≤ k) (ss : List ByteArray) (ws : List S55) (x y : Int) (z : Nat) (g r l : List ByteArray) (hn : 2 ≤ ss.length) (hn2 : ss.length ≤ 512) (hz : z ≤ 1000000) (hl : l.length < 1000) : journal_waits.f k ss ws x y (z : Int) g r l = some (wts ss.length z l) := by
  unfold journal_waits.f wts
  rw [longs_tells k l (by omega) (by omega), Option.bind_some]
  cases hlo : longs l with
  | true => rfl
  | false =>
    have h1 := longs_not hlo
    have h2 := whole_le h1 (by decide)
    rw [if_neg (by decide), if_neg (by decide), frames_tells k hk (fun s hs => Nat.le_trans (h1 s hs) (by decide)) (by omega), Option.bind_some, room_tells hn (by omega), Option.bind_some]
    generalize (whole l).size = v at h2 ⊢
    have hr := room_le hn2
    generalize room ss.length = rm at hr ⊢
    have hv : v ≤ 1013000 := by omega
    by_cases c1 : 16 < l.length
    · rw [if_pos (by omega), if_pos (.inl c1)]
    · rw [if_neg (by omega)]
      by_cases c2 : 3000 < v
      · rw [if_pos (by omega), if_pos (.inr (.inl c2))]
      · have e : wrap64 ((z : Int) + (v : Int)) = ((z + v : Nat) : Int) := by
          rw [← Int.natCast_add]
          exact wrap64_id (by omega) (by omega)
        rw [if_neg (by clear e; omega), e]
        by_cases c3 : rm < z + v
        · rw [if_pos (by clear e; omega), if_pos (.inr (.inr c3))]
        · rw [if_neg (by clear e; omega), if_neg]
          rintro (h | h | h)
          · exact c1 h
          · exact c2 h
          · exact c3 h
/-- What an open journal is. -/
theorem opn_ok {ss : List ByteArray} {ws : List S55} {p : Int × Int × Int × List ByteArray} (h : opn ss ws = .ok p) : rightB ss ws = true ∧ 8 ≤ ss.length ∧ ws = [] ∧ ∃ x y z : Nat, p.1 = x ∧ p.2.1 = y ∧ p.2.2.1 = z ∧ 1 ≤ x ∧ x ≤ 1099511627776 ∧ y ≤ 1 ∧ z ≤ room ss.length ∧ best ss = ((x : Int), (y : Int), (z : Int)) ∧ byts ss y z = whole p.2.2.2 ∧ ∀ d ∈ p.2.2.2, d.size ≤ 4096 := by
  unfold opn at h
  split at h
  · rename_i h0
    split at h
    · cases h
    · rename_i h1
      split at h
      · rename_i h2
        obtain rfl := (Except.ok.inj h).symm
        obtain ⟨r1, r2⟩ := recs_inv h2
        rcases best_ok ss with hb | ⟨b1, b2, b3, b4, b5, b6⟩
        · exact absurd hb h1
        · generalize best ss = q at *
          obtain ⟨x, y, z⟩ := q
          simp only at *
          obtain ⟨x, rfl⟩ := Int.eq_ofNat_of_zero_le (Int.le_trans (by decide) b1)
          obtain ⟨y, rfl⟩ := Int.eq_ofNat_of_zero_le b3
          obtain ⟨z, rfl⟩ := Int.eq_ofNat_of_zero_le b5
          rw [Int.toNat_natCast, Int.toNat_natCast] at r1 r2 ⊢
          exact ⟨h0.1, h0.2.1, h0.2.2, x, y, z, rfl, rfl, rfl, by omega, by omega, by omega, by omega, rfl, r1, r2⟩
      · cases h
  · cases h
def rightJ (ss : List ByteArray) (ws : List S55) (x y z : Int) (g r : List ByteArray) : Bool := match opn ss ws with
  | .ok p => decide (p = (x, y, z, r)) && decide (wts ss.length z.toNat g = 0)
  | .error _ => false
theorem opn_err {ss : List ByteArray} {ws : List S55} {e : Int} (h : opn ss ws = .error e) : e ≠ 0 := by
  unfold opn at h
  split at h
  · split at h
    · obtain rfl := Except.error.inj h
      decide
    · split at h
      · cases h
      · obtain rfl := Except.error.inj h
        decide
  · obtain rfl := Except.error.inj h
    decide
theorem whole_len : ∀ {l : List ByteArray}, (∀ d ∈ l, d.size ≤ 4096) → l.length * 5 ≤ (whole l).size
  | [], _ => Nat.zero_le _
  | d :: l, h => by
    have h1 := h d (List.mem_cons_self ..)
    have h2 := (frm_size (d := d) (by omega)).1
    have h3 := whole_len (l := l) fun x hx => h x (List.mem_cons_of_mem _ hx)
    rw [whole, app_size, List.length_cons]
    generalize (frm d).size = u at h2 ⊢
    generalize (whole l).size = v at h3 ⊢
    omega
theorem byts_size {ss : List ByteArray} {y z : Nat} (hs : ∀ x ∈ ss, x.size = 64) (h8 : 8 ≤ ss.length) (hy : y ≤ 1) (hz : z ≤ room ss.length) : (byts ss y z).size = z := by
  have hcs := cat_size (l := secs ss y) fun x hx => hs x (secs_in hx)
  rw [secs_len hy h8] at hcs
  have hroom : room ss.length = hf ss * 64 := rfl
  unfold byts
  rw [ext_size _ _ _ (by rw [hcs]; omega), Nat.sub_zero]
theorem right_j (k : Nat) (hk : 20000 ≤ k) (hk2 : k ≤ 1000000) (ss : List ByteArray) (ws : List S55) (x y z : Int) (g r : List ByteArray) (h1 : ss.length < k) (h2 : ws.length < k) (hg : g.length < 1000) : journal_Right.f k ss ws x y z g r = some (rightJ ss ws x y z g r) := by
  unfold journal_Right.f rightJ
  rw [open_tells k hk hk2 ss ws h1 h2, Option.bind_some]
  cases ho : opn ss ws with
  | error e =>
    have he := opn_err ho
    have e1 := eq_tells k [] r (by rw [List.length_nil]; omega) (Nat.zero_le _)
    simp only [outO]
    rw [e1, Option.bind_some]
    simp [he]
  | ok p =>
    obtain ⟨q1, q2, q3, x', y', z', e1, e2, e3, b1, b2, b3, b4, b5, b6, b7⟩ := opn_ok ho
    obtain ⟨p1, p2, p3, l⟩ := p
    simp only at e1 e2 e3 b6 b7
    subst e1 e2 e3
    obtain ⟨⟨r1, r2, r3⟩, r4, r5⟩ := rightB_is.1 q1
    have hl := whole_len b7
    rw [← b6, byts_size r4 q2 b3 b4] at hl
    have hr := room_le r2
    simp only [outO]
    rw [eq_tells k l r (by omega) (by omega), Option.bind_some]
    by_cases c1 : (x' : Int) = x
    · subst c1
      by_cases c2 : (y' : Int) = y
      · subst c2
        by_cases c3 : (z' : Int) = z
        · subst c3
          rw [if_pos rfl, if_pos rfl, if_pos rfl]
          by_cases c4 : l = r
          · subst c4
            rw [decide_eq_true rfl, waits_tells k (by omega) ss ws x' y' z' g l g (by omega) r2 (by omega) hg, Option.bind_some, decide_eq_true rfl, Bool.true_and, Int.toNat_natCast]
            refine (if_pos trivial).trans ((if_pos rfl).trans ?_)
            congr 1
          · rw [decide_eq_false c4, decide_eq_false fun e => c4 (Prod.mk.inj (Prod.mk.inj (Prod.mk.inj e).2).2).2, Bool.false_and]
            exact (if_pos trivial).trans (if_neg Bool.false_ne_true)
        · rw [if_pos rfl, if_pos rfl, if_neg c3, decide_eq_false fun e => c3 (Prod.mk.inj (Prod.mk.inj (Prod.mk.inj e).2).2).1, Bool.false_and]
          exact if_pos trivial
      · rw [if_pos rfl, if_neg c2, decide_eq_false fun e => c2 (Prod.mk.inj (Prod.mk.inj e).2).1, Bool.false_and]
        exact if_pos trivial
    · rw [if_neg c1, decide_eq_false fun e => c1 (Prod.mk.inj e).1, Bool.false_and]
      exact if_pos trivial
/-! ### bytes, one by one -/
theorem bt_getD (s : ByteArray) (i : Nat) : bt s (i : Int) = (byI s).getD i 0 := by
  rw [List.getD_eq_getElem?_getD]
  by_cases h : i < s.size
  · rw [bt_get h]
    rfl
  · rw [List.getElem?_eq_none (by rw [← size_byI]; omega)]
    unfold bt
    rw [Int.toNat_natCast, dif_neg h]
    rfl
theorem bt_app (a b : ByteArray) (i : Nat) : bt (a ++ b) (i : Int) = if i < a.size then bt a (i : Int) else bt b ((i - a.size : Nat) : Int) := by
  rw [bt_getD, bt_getD, bt_getD, byI_app, List.getD_eq_getElem?_getD, List.getD_eq_getElem?_getD, List.getD_eq_getElem?_getD]
  by_cases h : i < a.size
  · rw [if_pos h, List.getElem?_append_left (by rw [← size_byI]; exact h)]
  · rw [if_neg h, List.getElem?_append_right (by rw [← size_byI]; omega), ← size_byI]
theorem bt_ext (s : ByteArray) (i j p : Nat) : bt (s.extract i j) (p : Int) = if i + p < j then bt s ((i + p : Nat) : Int) else 0 := by
  rw [bt_getD, bt_getD, byI_ext, List.getD_eq_getElem?_getD, List.getD_eq_getElem?_getD, List.getElem?_drop, List.getElem?_take]
  split <;> rfl
theorem ba_ext {a b : ByteArray} (h : a.size = b.size) (h2 : ∀ i : Nat, i < a.size → bt a (i : Int) = bt b (i : Int)) : a = b := by
  apply byI_inj
  apply List.ext_getElem?
  intro i
  by_cases hi : i < a.size
  · rw [bt_get hi, bt_get (by omega), h2 i hi]
  · rw [List.getElem?_eq_none (by rw [← size_byI]; omega), List.getElem?_eq_none (by rw [← size_byI]; omega)]
theorem bt_cat : ∀ (l : List ByteArray), (∀ x ∈ l, x.size = 64) → ∀ (j i : Nat), i < 64 → bt (cat l) ((64 * j + i : Nat) : Int) = bt (l.getD j ⟨#[]⟩) (i : Int)
  | [], _, j, i, hi => by
    rw [cat]
    rfl
  | s :: l, h, j, i, hi => by
    have hs := h s (List.mem_cons_self ..)
    rw [cat, bt_app, hs]
    cases j with
    | zero => rw [if_pos (by omega), Nat.mul_zero, Nat.zero_add]; rfl
    | succ j =>
      rw [if_neg (by omega), show 64 * (j + 1) + i - 64 = 64 * j + i by omega, bt_cat l (fun x hx => h x (List.mem_cons_of_mem _ hx)) j i hi]
      rfl
/-! ### bytes laid into a half -/
def laidS (x s : ByteArray) (i n : Nat) : ByteArray := x.extract 0 i ++ s.extract 0 n ++ x.extract (i + n) x.size
theorem laidS_size {x s : ByteArray} {i n : Nat} (hx : x.size = 64) (hin : i + n ≤ 64) (hn : n ≤ s.size) : (laidS x s i n).size = 64 := by
  unfold laidS
  rw [app_size, app_size, ext_size _ _ _ (by omega), ext_size _ _ _ hn, ext_size _ _ _ (Nat.le_refl _)]
  omega
theorem laidS_bt {x s : ByteArray} {i n : Nat} (hx : x.size = 64) (hin : i + n ≤ 64) (hn : n ≤ s.size) (p : Nat) (hp : p < 64) : bt (laidS x s i n) (p : Int) = if p < i then bt x (p : Int) else if p < i + n then bt s ((p - i : Nat) : Int) else bt x (p : Int) := by
  have z1 : (x.extract 0 i).size = i := by rw [ext_size _ _ _ (by omega)]; omega
  have z2 : (s.extract 0 n).size = n := by rw [ext_size _ _ _ hn]; omega
  unfold laidS
  rw [bt_app, app_size, z1, z2, bt_app, z1, bt_ext, bt_ext, bt_ext]
  by_cases c1 : p < i
  · rw [if_pos (by omega), if_pos c1, if_pos (by omega), if_pos c1, Nat.zero_add]
  · by_cases c2 : p < i + n
    · rw [if_pos c2, if_neg c1, if_pos (by omega), if_neg c1, if_pos c2, Nat.zero_add]
    · rw [if_neg c2, if_neg c1, if_neg c2, if_pos (by omega), show i + n + (p - (i + n)) = p by omega]
def wr (at' : Nat) (sec : Nat → ByteArray) : Nat → Nat → ByteArray → List S55
  | 0, _, _ => []
  | f + 1, fr, s => if s = ⟨#[]⟩ then [] else ⟨((at' + fr / 64 : Nat) : Int), laidS (sec (fr / 64)) s (fr % 64) (min (64 - fr % 64) s.size)⟩ :: wr at' sec f (fr + min (64 - fr % 64) s.size) (s.extract (min (64 - fr % 64) s.size) s.size)
theorem wr_nil (at' : Nat) (sec : Nat → ByteArray) : ∀ (f fr : Nat) (s : ByteArray), s.size = 0 → wr at' sec f fr s = []
  | 0, _, _, _ => rfl
  | f + 1, fr, s, h => by rw [wr, if_pos (size_zero h)]
theorem wr_spec (at' : Nat) (sec : Nat → ByteArray) (H : Nat) (hs : ∀ j, j < H → (sec j).size = 64) : ∀ (f fr : Nat) (s : ByteArray), fr + s.size ≤ 64 * H → ∀ w ∈ wr at' sec f fr s, ∃ j, fr / 64 ≤ j ∧ j < H ∧ w.f0 = ((at' + j : Nat) : Int) ∧ w.f1.size = 64 ∧ ∀ i : Nat, i < 64 → 64 * j + i < fr → bt w.f1 (i : Int) = bt (sec j) (i : Int)
  | 0, fr, s, _, w, hw => by cases hw
  | f + 1, fr, s, h, w, hw => by
    rw [wr] at hw
    split at hw
    · cases hw
    · rename_i h0
      have h1 : s.size ≠ 0 := fun e => h0 (size_zero e)
      have hj : fr / 64 < H := by omega
      have hsj := hs _ hj
      have hin : fr % 64 + min (64 - fr % 64) s.size ≤ 64 := by omega
      have hn : min (64 - fr % 64) s.size ≤ s.size := Nat.min_le_right _ _
      rcases List.mem_cons.1 hw with rfl | hw
      · refine ⟨fr / 64, Nat.le_refl _, hj, rfl, laidS_size hsj hin hn, fun i hi hlt => ?_⟩
        rw [laidS_bt hsj hin hn i hi, if_pos (by omega)]
      · have hz : (s.extract (min (64 - fr % 64) s.size) s.size).size = s.size - min (64 - fr % 64) s.size := ext_size _ _ _ (Nat.le_refl _)
        by_cases c : s.size ≤ 64 - fr % 64
        · rw [wr_nil _ _ _ _ _ (by rw [hz]; omega)] at hw
          cases hw
        · obtain ⟨j, g1, g2, g3, g4, g5⟩ := wr_spec at' sec H hs f _ _ (by rw [hz]; omega) w hw
          exact ⟨j, by omega, g2, g3, g4, fun i hi hlt => absurd hlt (by omega)⟩
theorem wr_len (at' : Nat) (sec : Nat → ByteArray) : ∀ (f fr : Nat) (s : ByteArray), (wr at' sec f fr s).length ≤ (fr % 64 + s.size + 63) / 64
  | 0, fr, s => Nat.zero_le _
  | f + 1, fr, s => by
    rw [wr]
    split
    · exact Nat.zero_le _
    · rename_i h0
      have h1 : s.size ≠ 0 := fun e => h0 (size_zero e)
      have hz : (s.extract (min (64 - fr % 64) s.size) s.size).size = s.size - min (64 - fr % 64) s.size := ext_size _ _ _ (Nat.le_refl _)
      rw [List.length_cons]
      by_cases c : s.size ≤ 64 - fr % 64
      · rw [wr_nil _ _ _ _ _ (by rw [hz]; omega), List.length_nil]
        omega
      · have := wr_len at' sec f (fr + min (64 - fr % 64) s.size) (s.extract (min (64 - fr % 64) s.size) s.size)
        rw [hz] at this
        omega
theorem getF_none {a : Int} {s : ByteArray} : ∀ {ws : List S55}, (∀ w ∈ ws, w.f0 ≠ a) → getF a ws s = s
  | [], _ => rfl
  | w :: ws, h => by
    show List.foldl _ _ (w :: ws) = s
    rw [List.foldl_cons, if_neg (h w (List.mem_cons_self ..))]
    exact getF_none (ws := ws) fun x hx => h x (List.mem_cons_of_mem _ hx)
/-- What stands in a half behind all that is written. -/
theorem wr_all (at' : Nat) (sec : Nat → ByteArray) (H : Nat) (hs : ∀ j, j < H → (sec j).size = 64) : ∀ (f fr : Nat) (s : ByteArray), s.size ≤ f → fr + s.size ≤ 64 * H → ∀ j i : Nat, j < H → i < 64 →
    bt (getF ((at' + j : Nat) : Int) (wr at' sec f fr s) (sec j)) (i : Int) = if fr ≤ 64 * j + i ∧ 64 * j + i < fr + s.size then bt s ((64 * j + i - fr : Nat) : Int) else bt (sec j) (i : Int)
  | 0, fr, s, hf, h, j, i, hj, hi => by
    rw [if_neg (by omega)]
    rfl
  | f + 1, fr, s, hf, h, j, i, hj, hi => by
    rw [wr]
    split
    · rename_i h0
      have h1 : s.size = 0 := by rw [h0]; rfl
      rw [if_neg (by omega)]
      rfl
    · rename_i h0
      have h1 : s.size ≠ 0 := fun e => h0 (size_zero e)
      have hjj : fr / 64 < H := by omega
      have hsj := hs _ hjj
      have hin : fr % 64 + min (64 - fr % 64) s.size ≤ 64 := by omega
      have hn : min (64 - fr % 64) s.size ≤ s.size := Nat.min_le_right _ _
      have hz : (s.extract (min (64 - fr % 64) s.size) s.size).size = s.size - min (64 - fr % 64) s.size := ext_size _ _ _ (Nat.le_refl _)
      have hsp := wr_spec at' sec H hs f (fr + min (64 - fr % 64) s.size) (s.extract (min (64 - fr % 64) s.size) s.size) (by rw [hz]; omega)
      have ih := wr_all at' sec H hs f (fr + min (64 - fr % 64) s.size) (s.extract (min (64 - fr % 64) s.size) s.size) (by rw [hz]; omega) (by rw [hz]; omega) j i hj hi
      have hnil : s.size ≤ 64 - fr % 64 → wr at' sec f (fr + min (64 - fr % 64) s.size) (s.extract (min (64 - fr % 64) s.size) s.size) = [] := fun c => wr_nil _ _ _ _ _ (by rw [hz]; omega)
      show bt (List.foldl _ _ (_ :: _)) _ = _
      rw [List.foldl_cons]
      by_cases c : j = fr / 64
      · subst c
        rw [if_pos rfl]
        have hno : ∀ w ∈ wr at' sec f (fr + min (64 - fr % 64) s.size) (s.extract (min (64 - fr % 64) s.size) s.size), w.f0 ≠ ((at' + fr / 64 : Nat) : Int) := by
          by_cases c2 : s.size ≤ 64 - fr % 64
          · rw [hnil c2]
            intro w hw
            cases hw
          · intro w hw
            obtain ⟨j, g1, g2, g3, _⟩ := hsp w hw
            rw [g3]
            omega
        have e := getF_none (s := laidS (sec (fr / 64)) s (fr % 64) (min (64 - fr % 64) s.size)) hno
        unfold getF at e
        rw [e, laidS_bt hsj hin hn i hi]
        by_cases c3 : i < fr % 64
        · rw [if_pos c3, if_neg (by omega)]
        · rw [if_neg c3]
          by_cases c4 : i < fr % 64 + min (64 - fr % 64) s.size
          · rw [if_pos c4, if_pos (by omega), show i - fr % 64 = 64 * (fr / 64) + i - fr by omega]
          · rw [if_neg c4, if_neg (by omega)]
      · have hne : ¬ ((at' + fr / 64 : Nat) : Int) = ((at' + j : Nat) : Int) := by omega
        rw [if_neg hne]
        unfold getF at ih
        rw [ih, hz]
        by_cases c3 : fr + min (64 - fr % 64) s.size ≤ 64 * j + i ∧ 64 * j + i < fr + s.size
        · rw [if_pos (by omega), if_pos (by omega), bt_ext, if_pos (by omega)]
          congr 1
          omega
        · rw [if_neg (by omega), if_neg (by omega)]
theorem mnN (a b : Nat) : mn (a : Int) (b : Int) = ((min a b : Nat) : Int) := by unfold mn; split <;> omega
theorem rightB_add {ss : List ByteArray} {W : List S55} {a : Nat} {d : ByteArray} (hr : rightB ss W = true) (hW : W.length < 64) (ha : a < ss.length) (hd : d.size = 64) : rightB ss (W ++ [⟨(a : Int), d⟩]) = true := by
  obtain ⟨⟨r1, r2, r3⟩, r4, r5⟩ := rightB_is.1 hr
  refine rightB_is.2 ⟨⟨r1, r2, ?_⟩, r4, fun x hx => ?_⟩
  · rw [List.length_append, List.length_cons, List.length_nil]
    omega
  · rcases List.mem_append.1 hx with hx | hx
    · exact r5 x hx
    · rw [List.mem_singleton] at hx
      subst hx
      exact ⟨Int.natCast_nonneg _, by show (a : Int) < _; omega, hd⟩
theorem put_ok (k : Nat) (hk2 : k ≤ 1000000) {ss : List ByteArray} {W : List S55} {a : Nat} {d : ByteArray} (h1 : ss.length < k) (h2 : 64 < k) (hr : rightB ss W = true) (hW : W.length < 64) (ha : a < ss.length) (hd : d.size = 64) : disk_Put.f k ss W (a : Int) d = some (ss, W ++ [⟨(a : Int), d⟩], 0) := by
  rw [put_tells k ss W a d h1 (by omega) hk2, if_pos hr, if_pos ⟨Int.natCast_nonneg _, by omega⟩, if_pos hd, if_neg (by omega)]
theorem get_ok (k : Nat) (hk2 : k ≤ 1000000) {ss : List ByteArray} {W : List S55} {a : Nat} (h1 : ss.length < k) (h2 : 64 < k) (hr : rightB ss W = true) (ha : a < ss.length) (hn : ∀ w ∈ W, w.f0 ≠ (a : Int)) : disk_Get.f k ss W (a : Int) = some (ss.getD a ⟨#[]⟩, 0) := by
  obtain ⟨⟨r1, r2, r3⟩, _⟩ := rightB_is.1 hr
  rw [get_tells k ss W a h1 (by omega) hk2, if_pos hr, if_pos ⟨Int.natCast_nonneg _, by omega⟩, Int.toNat_natCast, getF_none hn]
theorem getD_size {ss : List ByteArray} (hs : ∀ x ∈ ss, x.size = 64) {a : Nat} (ha : a < ss.length) : (ss.getD a ⟨#[]⟩).size = 64 := by
  rw [List.getD_eq_getElem?_getD, List.getElem?_eq_getElem ha]
  exact hs _ (List.getElem_mem ha)
theorem laid_l1 (k : Nat) (hk : 20000 ≤ k) (hk2 : k ≤ 1000000) (ss : List ByteArray) (at' H : Nat) (hat : at' + H ≤ ss.length) (hs : ∀ x ∈ ss, x.size = 64) (hss : ss.length ≤ 512) : ∀ (f m fr : Nat) (s : ByteArray) (W : List S55), s.size ≤ f → f < m → fr + s.size ≤ 64 * H → rightB ss W = true →
    (s.size ≠ 0 → ∀ w ∈ W, ∀ j, fr / 64 ≤ j → w.f0 ≠ ((at' + j : Nat) : Int)) → (s.size ≠ 0 → W.length + (fr % 64 + s.size + 63) / 64 ≤ 64) →
    journal_laid.l1 k (at' : Int) m (fr : Int) s ss W = some (ss, W ++ wr at' (fun j => ss.getD (at' + j) ⟨#[]⟩) f fr s) := by
  intro f
  induction f with
  | zero =>
    intro m fr s W hf hm hfr hr hW hb
    obtain ⟨m, rfl⟩ : ∃ q, m = q + 1 := ⟨m - 1, by omega⟩
    rw [journal_laid.l1, beq_is, if_pos (decide_eq_true (size_zero (by omega))), wr, List.append_nil]
  | succ f ih =>
    intro m fr s W hf hm hfr hr hW hb
    obtain ⟨m, rfl⟩ : ∃ q, m = q + 1 := ⟨m - 1, by omega⟩
    by_cases h0 : s = ⟨#[]⟩
    · rw [journal_laid.l1, beq_is, if_pos (decide_eq_true h0), wr, if_pos h0, List.append_nil]
    · have h1 : s.size ≠ 0 := fun e => h0 (size_zero e)
      have hb1 := hb h1
      have hW1 := hW h1
      have hjj : fr / 64 < H := by omega
      have ha : at' + fr / 64 < ss.length := by omega
      have hWl : W.length < 64 := by omega
      have hsz := getD_size hs ha
      have hg := get_ok k hk2 (W := W) (a := at' + fr / 64) (by omega) (by omega) hr ha fun w hw => hW1 w hw _ (Nat.le_refl _)
      have hn1 : min (64 - fr % 64) s.size ≤ s.size := Nat.min_le_right _ _
      have hin : fr % 64 + min (64 - fr % 64) s.size ≤ 64 := by omega
      have hd := laidS_size (s := s) hsz hin hn1
      have hp := put_ok k hk2 (W := W) (by omega) (by omega) hr hWl ha hd
      have hr2 := rightB_add hr hWl ha hd
      have hz : (s.extract (min (64 - fr % 64) s.size) s.size).size = s.size - min (64 - fr % 64) s.size := ext_size _ _ _ (Nat.le_refl _)
      have hih := ih m (fr + min (64 - fr % 64) s.size) (s.extract (min (64 - fr % 64) s.size) s.size) (W ++ [⟨((at' + fr / 64 : Nat) : Int), laidS (ss.getD (at' + fr / 64) ⟨#[]⟩) s (fr % 64) (min (64 - fr % 64) s.size)⟩]) (by rw [hz]; omega) (by omega) (by rw [hz]; omega) hr2
        (by
          rw [hz]
          intro h2 w hw j hj
          rcases List.mem_append.1 hw with hw | hw
          · exact hW1 w hw j (by omega)
          · rw [List.mem_singleton] at hw
            subst hw
            show ((at' + fr / 64 : Nat) : Int) ≠ _
            omega)
        (by
          rw [hz, List.length_append, List.length_cons, List.length_nil]
          intro h2
          omega)
      have hfb : fr ≤ 40000 := by omega
      have hsb : s.size ≤ 40000 := by omega
      have hatb : at' + fr / 64 ≤ 512 := by omega
      have q1 : ((fr : Nat) : Int).tmod 64 = ((fr % 64 : Nat) : Int) := by rw [Int.tmod_eq_emod_of_nonneg (Int.natCast_nonneg _)]; rfl
      have q2 : wrap64 ((at' : Int) + (IntKind.i64.wrap ((fr : Int).tdiv 64))) = ((at' + fr / 64 : Nat) : Int) := by
        rw [Int.tdiv_eq_ediv_of_nonneg (Int.natCast_nonneg _), i64w, wrap64_id (a := (fr : Int) / 64) (by omega) (by omega)]
        exact (wrap64_id (by omega) (by omega)).trans (by omega)
      have q3 : mn (wrap64 (64 - ((fr % 64 : Nat) : Int))) (s.size : Int) = ((min (64 - fr % 64) s.size : Nat) : Int) := by
        rw [← mnN, wrap64_id (by omega) (by omega)]
        congr 1
        omega
      have q4 : wrap64 (((fr % 64 : Nat) : Int) + ((min (64 - fr % 64) s.size : Nat) : Int)) = ((fr % 64 + min (64 - fr % 64) s.size : Nat) : Int) := by
        rw [← Int.natCast_add]
        exact wrap64_id (by clear q2 q3; omega) (by clear q2 q3; omega)
      have q5 : wrap64 ((fr : Int) + ((min (64 - fr % 64) s.size : Nat) : Int)) = ((fr + min (64 - fr % 64) s.size : Nat) : Int) := by
        rw [← Int.natCast_add]
        exact wrap64_id (by clear q2 q3 q4; omega) (by clear q2 q3 q4; omega)
      have c1 : ((fr % 64 : Nat) : Int) ≤ ((ss.getD (at' + fr / 64) ⟨#[]⟩).size : Int) := by rw [hsz]; clear q2 q3 q4 q5; omega
      have c2 : ((min (64 - fr % 64) s.size : Nat) : Int) ≤ (s.size : Int) := by clear q2 q3 q4 q5; omega
      have z1 : ((ss.getD (at' + fr / 64) ⟨#[]⟩).extract 0 (fr % 64)).size = fr % 64 := by rw [ext_size _ _ _ (by rw [hsz]; clear q2 q3 q4 q5; omega)]; rfl
      have z2 : (s.extract 0 (min (64 - fr % 64) s.size)).size = min (64 - fr % 64) s.size := by rw [ext_size _ _ _ hn1]; rfl
      have c3 : ((ss.getD (at' + fr / 64) ⟨#[]⟩).extract 0 (fr % 64)).size + (s.extract 0 (min (64 - fr % 64) s.size)).size ≤ 9223372036854775807 := by rw [z1, z2]; clear q2 q3 q4 q5; omega
      have c4 : ((fr % 64 + min (64 - fr % 64) s.size : Nat) : Int) ≤ ((ss.getD (at' + fr / 64) ⟨#[]⟩).size : Int) := by rw [hsz]; clear q2 q3 q4 q5; omega
      have c5 : (((ss.getD (at' + fr / 64) ⟨#[]⟩).extract 0 (fr % 64)) ++ (s.extract 0 (min (64 - fr % 64) s.size))).size + ((ss.getD (at' + fr / 64) ⟨#[]⟩).extract (fr % 64 + min (64 - fr % 64) s.size) (ss.getD (at' + fr / 64) ⟨#[]⟩).size).size ≤ 9223372036854775807 := by
        rw [app_size, z1, z2, ext_size _ _ _ (Nat.le_refl _), hsz]
        clear q2 q3 q4 q5
        omega
      rw [journal_laid.l1, beq_is, if_neg (by rw [decide_eq_false h0]; decide), q2, hg, Option.bind_some]
      simp only
      rw [q1, q3, q4, q5, if_pos (Int.natCast_nonneg _), if_pos c1, if_pos (Int.natCast_nonneg _), if_pos c2]
      simp only [Int.toNat_natCast]
      rw [if_pos c3, if_pos (Int.natCast_nonneg _), if_pos c4, if_pos c5]
      refine Eq.trans (congrArg (fun o => Option.bind o _) hp) ?_
      rw [Option.bind_some]
      simp only
      rw [wr, if_neg h0]
      refine hih.trans ?_
      rw [List.append_assoc]
      rfl
/-! ### which head is the better one -/
def Tops (ss : List ByteArray) (x y z : Nat) : Prop := isHead ((x % 2 : Nat) : Int) ss.length (ss.getD (x % 2) ⟨#[]⟩) ∧ sT (ss.getD (x % 2) ⟨#[]⟩) = x ∧ sY (ss.getD (x % 2) ⟨#[]⟩) = y ∧ sZ (ss.getD (x % 2) ⟨#[]⟩) = z ∧ (isHead ((1 - x % 2 : Nat) : Int) ss.length (ss.getD (1 - x % 2) ⟨#[]⟩) → sT (ss.getD (1 - x % 2) ⟨#[]⟩) < x)
theorem head_par {a : Nat} {n : Nat} {s : ByteArray} (h : isHead (a : Int) n s) : ∃ x : Nat, sT s = x ∧ 1 ≤ x ∧ x ≤ 1099511627776 ∧ x % 2 = a := by
  obtain ⟨h1, h2, h3, _⟩ := h
  obtain ⟨x, hx⟩ := Int.eq_ofNat_of_zero_le (Int.le_trans (by decide) h1)
  rw [hx] at h1 h2 h3
  rw [Int.tmod_eq_emod_of_nonneg (Int.natCast_nonneg _)] at h3
  exact ⟨x, hx, by omega, by omega, by omega⟩
theorem best_tops {ss : List ByteArray} {x y z : Nat} (hx : 1 ≤ x) : best ss = ((x : Int), (y : Int), (z : Int)) ↔ Tops ss x y z := by
  have p0 := fun h => head_par (a := 0) (n := ss.length) (s := ss.getD 0 ⟨#[]⟩) h
  have p1 := fun h => head_par (a := 1) (n := ss.length) (s := ss.getD 1 ⟨#[]⟩) h
  have b0 := best_0 (ss := ss)
  have b1 := best_1 (ss := ss)
  have b2 := best_2 (ss := ss)
  have b3 := best_3 (ss := ss)
  have t0 : x % 2 = 0 → (Tops ss x y z ↔ (isHead 0 ss.length (ss.getD 0 ⟨#[]⟩) ∧ sT (ss.getD 0 ⟨#[]⟩) = x ∧ sY (ss.getD 0 ⟨#[]⟩) = y ∧ sZ (ss.getD 0 ⟨#[]⟩) = z ∧ (isHead 1 ss.length (ss.getD 1 ⟨#[]⟩) → sT (ss.getD 1 ⟨#[]⟩) < x))) := by
    intro h
    unfold Tops
    rw [h]
    rfl
  have t1 : x % 2 = 1 → (Tops ss x y z ↔ (isHead 1 ss.length (ss.getD 1 ⟨#[]⟩) ∧ sT (ss.getD 1 ⟨#[]⟩) = x ∧ sY (ss.getD 1 ⟨#[]⟩) = y ∧ sZ (ss.getD 1 ⟨#[]⟩) = z ∧ (isHead 0 ss.length (ss.getD 0 ⟨#[]⟩) → sT (ss.getD 0 ⟨#[]⟩) < x))) := by
    intro h
    unfold Tops
    rw [h]
    rfl
  generalize isHead 0 ss.length (ss.getD 0 ⟨#[]⟩) = P0 at *
  generalize isHead 1 ss.length (ss.getD 1 ⟨#[]⟩) = P1 at *
  generalize sT (ss.getD 0 ⟨#[]⟩) = T0 at *
  generalize sT (ss.getD 1 ⟨#[]⟩) = T1 at *
  generalize sY (ss.getD 0 ⟨#[]⟩) = Y0 at *
  generalize sY (ss.getD 1 ⟨#[]⟩) = Y1 at *
  generalize sZ (ss.getD 0 ⟨#[]⟩) = Z0 at *
  generalize sZ (ss.getD 1 ⟨#[]⟩) = Z1 at *
  generalize best ss = B at *
  generalize Tops ss x y z = T at *
  have hpar : x % 2 = 0 ∨ x % 2 = 1 := by omega
  by_cases i0 : P0
  · obtain ⟨u, hu, u1, u2, u3⟩ := p0 i0
    subst hu
    by_cases i1 : P1
    · obtain ⟨v, hv, v1, v2, v3⟩ := p1 i1
      subst hv
      by_cases c : (v : Int) > (u : Int)
      · rw [b3 i0 ⟨i1, c⟩]
        rcases hpar with h | h
        · rw [t0 h]
          constructor
          · intro e
            simp only [Prod.mk.injEq] at e
            omega
          · rintro ⟨_, e1, _, _, e4⟩
            have := e4 i1
            omega
        · rw [t1 h]
          constructor
          · intro e
            simp only [Prod.mk.injEq] at e
            exact ⟨i1, e.1, e.2.1, e.2.2, fun _ => by omega⟩
          · rintro ⟨_, e1, e2, e3, _⟩
            rw [e1, e2, e3]
      · rw [b2 i0 fun h => c h.2]
        rcases hpar with h | h
        · rw [t0 h]
          constructor
          · intro e
            simp only [Prod.mk.injEq] at e
            exact ⟨i0, e.1, e.2.1, e.2.2, fun _ => by omega⟩
          · rintro ⟨_, e1, e2, e3, _⟩
            rw [e1, e2, e3]
        · rw [t1 h]
          constructor
          · intro e
            simp only [Prod.mk.injEq] at e
            omega
          · rintro ⟨_, e1, _, _, e4⟩
            have := e4 i0
            omega
    · rw [b2 i0 fun h => i1 h.1]
      rcases hpar with h | h
      · rw [t0 h]
        constructor
        · intro e
          simp only [Prod.mk.injEq] at e
          exact ⟨i0, e.1, e.2.1, e.2.2, fun h => absurd h i1⟩
        · rintro ⟨_, e1, e2, e3, _⟩
          rw [e1, e2, e3]
      · rw [t1 h]
        constructor
        · intro e
          simp only [Prod.mk.injEq] at e
          omega
        · rintro ⟨e, _⟩
          exact absurd e i1
  · by_cases i1 : P1
    · obtain ⟨v, hv, v1, v2, v3⟩ := p1 i1
      subst hv
      rw [b1 i0 i1]
      rcases hpar with h | h
      · rw [t0 h]
        constructor
        · intro e
          simp only [Prod.mk.injEq] at e
          omega
        · rintro ⟨e, _⟩
          exact absurd e i0
      · rw [t1 h]
        constructor
        · intro e
          simp only [Prod.mk.injEq] at e
          exact ⟨i1, e.1, e.2.1, e.2.2, fun h => absurd h i0⟩
        · rintro ⟨_, e1, e2, e3, _⟩
          rw [e1, e2, e3]
    · rw [b0 i0 i1]
      rcases hpar with h | h
      · rw [t0 h]
        constructor
        · intro e
          simp only [Prod.mk.injEq] at e
          omega
        · rintro ⟨e, _⟩
          exact absurd e i0
      · rw [t1 h]
        constructor
        · intro e
          simp only [Prod.mk.injEq] at e
          omega
        · rintro ⟨e, _⟩
          exact absurd e i1
/-- A journal that opens. -/
theorem opn_iff {ss : List ByteArray} {x y z : Nat} {l : List ByteArray} (hx : 1 ≤ x) : opn ss [] = .ok ((x : Int), (y : Int), (z : Int), l) ↔ (rightB ss [] = true ∧ 8 ≤ ss.length ∧ Tops ss x y z ∧ byts ss y z = whole l ∧ ∀ d ∈ l, d.size ≤ 4096) := by
  constructor
  · intro h
    obtain ⟨q1, q2, q3, x', y', z', e1, e2, e3, b1, b2, b3, b4, b5, b6, b7⟩ := opn_ok h
    simp only at e1 e2 e3 b6 b7
    have e1' : x = x' := by omega
    have e2' : y = y' := by omega
    have e3' : z = z' := by omega
    subst e1' e2' e3'
    exact ⟨q1, q2, (best_tops hx).1 b5, b6, b7⟩
  · rintro ⟨q1, q2, q3, q4, q5⟩
    have hb := (best_tops hx).2 q3
    unfold opn
    rw [if_pos ⟨q1, q2, rfl⟩, hb]
    simp only [Int.toNat_natCast]
    rw [if_neg (by omega), q4, recs_whole q5]
    exact if_pos rfl
theorem tops_range {ss : List ByteArray} {x y z : Nat} (h : Tops ss x y z) : 1 ≤ x ∧ x ≤ 1099511627776 ∧ y ≤ 1 ∧ z ≤ room ss.length := by
  obtain ⟨h1, h2, h3, h4, _⟩ := h
  obtain ⟨g1, g2, g3, g4, g5, _⟩ := h1
  rw [h2] at g1 g2
  rw [h3] at g4
  rw [h4] at g5
  exact ⟨by omega, by omega, by omega, by omega⟩
theorem byts_bt {ss : List ByteArray} {y z : Nat} (hs : ∀ x ∈ ss, x.size = 64) (h8 : 8 ≤ ss.length) (hy : y ≤ 1) (hz : z ≤ room ss.length) {p : Nat} (hp : p < z) : bt (byts ss y z) (p : Int) = bt (ss.getD (2 + y * hf ss + p / 64) ⟨#[]⟩) ((p % 64 : Nat) : Int) := by
  have hj : p / 64 < hf ss := by
    have hroom : room ss.length = hf ss * 64 := rfl
    omega
  have e : 64 * (p / 64) + p % 64 = p := by omega
  have hb := bt_cat (secs ss y) (fun x hx => hs x (secs_in hx)) (p / 64) (p % 64) (by omega)
  rw [e] at hb
  unfold byts
  rw [bt_ext, if_pos (by omega), Nat.zero_add, hb]
  unfold secs
  rw [List.getD_eq_getElem?_getD, List.getD_eq_getElem?_getD, List.getElem?_take, if_pos hj, List.getElem?_drop]
/-! ### a plan's disks -/
def Z64 : ByteArray := ⟨(Go.Lib.repeatL (⟨#[0]⟩ : ByteArray).data.toList (64 : Int).toNat).toArray⟩
theorem Z64_size : Z64.size = 64 := by decide +kernel
theorem Z64_bt : ∀ i : Nat, i < 64 → bt Z64 (i : Int) = 0 := by decide +kernel
theorem zeros_tells : strings_Repeat.f (⟨#[0]⟩ : ByteArray) 64 = some Z64 := by
  unfold strings_Repeat.f
  rw [if_pos (by decide)]
  rfl
def wrH (ss : List ByteArray) (side fr : Nat) (s : ByteArray) : List S55 := wr (2 + side * hf ss) (fun j => ss.getD (2 + side * hf ss + j) ⟨#[]⟩) s.size fr s
def firstW (ss : List ByteArray) (x side fr : Nat) (s : ByteArray) : List S55 := wrH ss side fr s ++ [⟨(((x + 1) % 2 : Nat) : Int), Z64⟩]
def ALL : Nat := 18446744073709551615
def disk1 (ss : List ByteArray) (x side fr : Nat) (s : ByteArray) : List ByteArray := crashB ss (firstW ss x side fr s) ALL 0
def newH (x side fr : Nat) (s : ByteArray) : ByteArray := hdI ((x + 1 : Nat) : Int) (side : Int) ((fr + s.size : Nat) : Int)
def secondW (x side fr : Nat) (s : ByteArray) : List S55 := [⟨(((x + 1) % 2 : Nat) : Int), newH x side fr s⟩]
theorem sides {ss : List ByteArray} {side : Nat} (h8 : 8 ≤ ss.length) (h : side ≤ 1) : 2 + side * hf ss + hf ss ≤ ss.length ∧ room ss.length = hf ss * 64 := by
  have h1 : side * hf ss ≤ 1 * hf ss := Nat.mul_le_mul_right _ h
  have h2 : hf ss = (ss.length - 2) / 2 := rfl
  refine ⟨?_, rfl⟩
  generalize side * hf ss = q at h1 ⊢
  omega
theorem wrH_len {ss : List ByteArray} {side fr : Nat} {s : ByteArray} (hs : s.size ≤ 3014) : (wrH ss side fr s).length ≤ 50 := by
  have := wr_len (2 + side * hf ss) (fun j => ss.getD (2 + side * hf ss + j) ⟨#[]⟩) s.size fr s
  unfold wrH
  omega
theorem wrH_spec {ss : List ByteArray} {side fr : Nat} {s : ByteArray} (hr : rightB ss [] = true) (h8 : 8 ≤ ss.length) (hside : side ≤ 1) (hfit : fr + s.size ≤ room ss.length) : ∀ w ∈ wrH ss side fr s, ∃ j, fr / 64 ≤ j ∧ j < hf ss ∧ w.f0 = ((2 + side * hf ss + j : Nat) : Int) ∧ w.f1.size = 64 ∧ ∀ i : Nat, i < 64 → 64 * j + i < fr → bt w.f1 (i : Int) = bt (ss.getD (2 + side * hf ss + j) ⟨#[]⟩) (i : Int) := by
  obtain ⟨⟨r1, r2, r3⟩, r4, r5⟩ := rightB_is.1 hr
  obtain ⟨s1, s2⟩ := sides h8 hside
  exact wr_spec (2 + side * hf ss) (fun j => ss.getD (2 + side * hf ss + j) ⟨#[]⟩) (hf ss) (fun j hj => getD_size r4 (by omega)) s.size fr s (by omega)
theorem wrH_right {ss : List ByteArray} {side fr : Nat} {s : ByteArray} (hr : rightB ss [] = true) (h8 : 8 ≤ ss.length) (hside : side ≤ 1) (hfit : fr + s.size ≤ room ss.length) (hs : s.size ≤ 3014) : rightB ss (wrH ss side fr s) = true := by
  obtain ⟨⟨r1, r2, r3⟩, r4, r5⟩ := rightB_is.1 hr
  obtain ⟨s1, s2⟩ := sides h8 hside
  have hl := wrH_len (ss := ss) (side := side) (fr := fr) hs
  refine rightB_is.2 ⟨⟨r1, r2, by omega⟩, r4, fun w hw => ?_⟩
  obtain ⟨j, g1, g2, g3, g4, _⟩ := wrH_spec hr h8 hside hfit w hw
  rw [g3]
  exact ⟨Int.natCast_nonneg _, by omega, g4⟩
theorem firstW_right {ss : List ByteArray} {x side fr : Nat} {s : ByteArray} (hr : rightB ss [] = true) (h8 : 8 ≤ ss.length) (hside : side ≤ 1) (hfit : fr + s.size ≤ room ss.length) (hs : s.size ≤ 3014) : rightB ss (firstW ss x side fr s) = true := by
  have hl := wrH_len (ss := ss) (side := side) (fr := fr) hs
  exact rightB_add (wrH_right hr h8 hside hfit hs) (by omega) (by omega) Z64_size
theorem first_tells (k : Nat) (hk : 20000 ≤ k) (hk2 : k ≤ 1000000) {ss : List ByteArray} {x side fr : Nat} {s : ByteArray} (y z : Int) (g r : List ByteArray) (hr : rightB ss [] = true) (h8 : 8 ≤ ss.length) (hside : side ≤ 1) (hfit : fr + s.size ≤ room ss.length) (hs : s.size ≤ 3014) (hx : x ≤ 1099511627776) :
    journal_plan_first.f k side fr s ss [] x y z g r = some (ss, firstW ss x side fr s) := by
  obtain ⟨⟨r1, r2, r3⟩, r4, r5⟩ := rightB_is.1 hr
  obtain ⟨s1, s2⟩ := sides h8 hside
  have hb := begin_tells (n := ss.length) (by omega) (by omega) side (hf ss) rfl hside
  have hl := wrH_len (ss := ss) (side := side) (fr := fr) hs
  have hlaid := laid_l1 k hk hk2 ss (2 + side * hf ss) (hf ss) s1 r4 r2 s.size k fr s [] (Nat.le_refl _) (by omega) (by omega) hr (by intro _ w hw; cases hw) (by intro _; rw [List.length_nil]; omega)
  have hp := put_ok k hk2 (W := wrH ss side fr s) (a := (x + 1) % 2) (d := Z64) (by omega) (by omega) (wrH_right hr h8 hside hfit hs) (by omega) (by omega) Z64_size
  have e1 : (wrap64 ((x : Int) + 1)).tmod 2 = (((x + 1) % 2 : Nat) : Int) := by
    rw [wrap64_id (by omega) (by omega), Int.tmod_eq_emod_of_nonneg (by omega)]
    omega
  unfold journal_plan_first.f journal_laid.f
  rw [hb, Option.bind_some, hlaid, Option.bind_some, List.nil_append]
  simp only
  rw [zeros_tells, Option.bind_some, e1]
  exact (congrArg (fun o => Option.bind o _) hp).trans rfl
theorem ones (i : Nat) (h : i < 64) : ALL / 2 ^ i % 2 = 1 := by
  have : ∀ i, i < 64 → ALL / 2 ^ i % 2 = 1 := by decide +kernel
  exact this i h
theorem run_all (n : Nat) : ∀ (xs : List S55) (i : Nat) (l : List ByteArray) (last : Int), (∀ x ∈ xs, 0 ≤ x.f0 ∧ x.f0 < (n : Int) ∧ x.f1.size = 64) → l.length = n → i + xs.length ≤ 64 →
    (runC ALL xs i l last).2 = last ∧ ∀ (j : Nat), j < n → (runC ALL xs i l last).1.getD j ⟨#[]⟩ = getF (j : Int) xs (l.getD j ⟨#[]⟩)
  | [], i, l, last, _, _, _ => ⟨rfl, fun j _ => rfl⟩
  | x :: xs, i, l, last, h1, h2, h3 => by
    have hx := h1 x (by simp)
    simp only [List.length_cons] at h3
    unfold runC
    rw [if_pos (ones i (by omega))]
    obtain ⟨g1, g2⟩ := run_all n xs (i + 1) (l.set x.f0.toNat x.f1) last (fun y hy => h1 y (List.mem_cons_of_mem _ hy)) (by rw [List.length_set]; exact h2) (by omega)
    refine ⟨g1, fun j hj => ?_⟩
    rw [g2 j hj]
    show _ = List.foldl _ _ (x :: xs)
    rw [List.foldl_cons]
    by_cases c : x.f0 = (j : Int)
    · have e : x.f0.toNat = j := by omega
      rw [if_pos c, e, List.getD_eq_getElem?_getD, List.getElem?_set_self (by omega)]
      rfl
    · rw [if_neg c, List.getD_eq_getElem?_getD, List.getElem?_set_ne (by omega), ← List.getD_eq_getElem?_getD]
      rfl
theorem flush_getD {ss : List ByteArray} {ws : List S55} (hr : rightB ss ws = true) {p : Nat} (hp : p < ss.length) : (crashB ss ws ALL 0).getD p ⟨#[]⟩ = getF (p : Int) ws (ss.getD p ⟨#[]⟩) := by
  obtain ⟨⟨r1, r2, r3⟩, r4, r5⟩ := rightB_is.1 hr
  obtain ⟨g1, g2⟩ := run_all ss.length ws 0 ss (-1) r5 rfl (by omega)
  unfold crashB finC
  rw [g1, if_neg (by omega)]
  exact g2 p hp
theorem crash_right {ss : List ByteArray} {ws : List S55} (hr : rightB ss ws = true) (a : Nat) (t : Int) : rightB (crashB ss ws a t) [] = true := by
  obtain ⟨⟨r1, r2, r3⟩, r4, r5⟩ := rightB_is.1 hr
  obtain ⟨h1, h2⟩ := crashB_is hr a t
  exact rightB_is.2 ⟨⟨by omega, by omega, Nat.zero_le _⟩, h2, fun x hx => by cases hx⟩
theorem other_par (x : Nat) : 1 - (x + 1) % 2 = x % 2 := by omega
theorem getF_app (a : Int) (A B : List S55) (s : ByteArray) : getF a (A ++ B) s = getF a B (getF a A s) := by
  unfold getF
  rw [List.foldl_append]
theorem hdI_bt0 (a b c : Int) : bt (hdI a b c) 0 = 116 := by
  have h : (byI (hdI a b c))[0]? = some 116 := by rw [hdI_by]; rfl
  exact bt_of (i := 0) h
theorem hdI_bt32 (a b c : Int) : bt (hdI a b c) 32 = 116 := by
  have h : (byI (hdI a b c))[32]? = some 116 := by rw [hdI_by]; rfl
  exact bt_of (i := 32) h
theorem head_bt0 {a : Int} {n : Nat} {s : ByteArray} (h : isHead a n s) : bt s 0 = 116 ∧ bt s 32 = 116 := by
  have e := h.2.2.2.2.2
  rw [e]
  exact ⟨hdI_bt0 _ _ _, hdI_bt32 _ _ _⟩
/-- A torn head is no head, unless it is whole. -/
theorem torn_head {a : Int} {n : Nat} {b c d : Int} {m : Nat} (hm : m ≤ 64) (h : isHead a n (tear m (hdI b c d) Z64)) : tear m (hdI b c d) Z64 = hdI b c d := by
  have hb : byI (tear m (hdI b c d) Z64) = (byI (hdI b c d)).take m ++ (byI Z64).drop m := by
    unfold tear
    rw [byI_app, byI_ext, byI_ext, List.drop_zero, List.take_of_length_le (l := byI Z64) (by rw [← size_byI]; exact Nat.le_refl _)]
  have hl : ((byI (hdI b c d)).take m).length = m := by rw [List.length_take, ← size_byI, hdI_size]; omega
  have h32 := (head_bt0 h).2
  have hmm : 32 < m := by
    refine Classical.byContradiction fun hc => ?_
    have e : (byI (tear m (hdI b c d) Z64))[32]? = some (bt Z64 ((32 : Nat) : Int)) := by
      rw [hb, List.getElem?_append_right (by omega), hl, List.getElem?_drop, show m + (32 - m) = 32 by omega]
      exact bt_get (by rw [Z64_size]; omega)
    have := bt_of e
    rw [Z64_bt 32 (by omega)] at this
    rw [show ((32 : Nat) : Int) = 32 from rfl] at this
    rw [this] at h32
    exact absurd h32 (by decide)
  have e := h.2.2.2.2.2
  have e1 : (byI (tear m (hdI b c d) Z64)).take 32 = hL b c d := by
    rw [hb, List.take_append_of_le_length (by omega), List.take_take, Nat.min_eq_left (by omega), hdI_by, List.take_left' (hL_len b c d)]
  have e2 : (byI (tear m (hdI b c d) Z64)).take 32 = hL (sT (tear m (hdI b c d) Z64)) (sY (tear m (hdI b c d) Z64)) (sZ (tear m (hdI b c d) Z64)) := by
    conv => lhs; rw [e]
    rw [hdI_by, List.take_left' (hL_len _ _ _)]
  have e3 := e2.symm.trans e1
  have key : ∀ x y z b c d : Int, hL x y z = hL b c d → hdI x y z = hdI b c d := fun x y z b c d h => by unfold hdI; rw [h]
  exact e.trans (key _ _ _ _ _ _ e3)
section
variable {ss D : List ByteArray} {x y z side fr : Nat} {s : ByteArray} {l r : List ByteArray}
theorem open_old (hT : Tops ss x y z) (hb : byts ss y z = whole r) (hr' : ∀ d ∈ r, d.size ≤ 4096) (hr : rightB ss [] = true) (h8 : 8 ≤ ss.length) (hD : rightB D [] = true) (hl : D.length = ss.length)
    (h1 : D.getD (x % 2) ⟨#[]⟩ = ss.getD (x % 2) ⟨#[]⟩) (h2 : isHead ((1 - x % 2 : Nat) : Int) ss.length (D.getD (1 - x % 2) ⟨#[]⟩) → sT (D.getD (1 - x % 2) ⟨#[]⟩) < x)
    (h3 : ∀ j i : Nat, j < hf ss → i < 64 → 64 * j + i < z → bt (D.getD (2 + y * hf ss + j) ⟨#[]⟩) (i : Int) = bt (ss.getD (2 + y * hf ss + j) ⟨#[]⟩) (i : Int)) : opn D [] = .ok ((x : Int), (y : Int), (z : Int), r) := by
  obtain ⟨x1, x2, y1, z1⟩ := tops_range hT
  obtain ⟨⟨r1, r2, r3⟩, r4, r5⟩ := rightB_is.1 hr
  obtain ⟨⟨d1, d2, d3⟩, d4, d5⟩ := rightB_is.1 hD
  have hhf : hf D = hf ss := by unfold hf; rw [hl]
  refine (opn_iff x1).2 ⟨hD, by omega, ?_, ?_, hr'⟩
  · obtain ⟨g1, g2, g3, g4, g5⟩ := hT
    unfold Tops
    rw [hl, h1]
    exact ⟨g1, g2, g3, g4, h2⟩
  · rw [← hb]
    have zs := byts_size r4 h8 y1 z1
    have zd := byts_size d4 (by omega) y1 (z := z) (by rw [hl]; exact z1)
    refine ba_ext (zd.trans zs.symm) fun p hp => ?_
    rw [zd] at hp
    have hroom : room ss.length = hf ss * 64 := rfl
    rw [byts_bt d4 (by omega) y1 (by rw [hl]; exact z1) hp, byts_bt r4 h8 y1 z1 hp, hhf]
    exact h3 (p / 64) (p % 64) (by omega) (by omega) (by omega)
theorem open_new (hT : Tops ss x y z) (hx : x < 1099511627776) (hr : rightB ss [] = true) (h8 : 8 ≤ ss.length) (hside : side ≤ 1) (hfit : fr + s.size ≤ room ss.length) (hD : rightB D [] = true) (hl : D.length = ss.length)
    (hw : byts ss side fr ++ s = whole l) (hl' : ∀ d ∈ l, d.size ≤ 4096)
    (h1 : D.getD (x % 2) ⟨#[]⟩ = ss.getD (x % 2) ⟨#[]⟩) (h2 : D.getD ((x + 1) % 2) ⟨#[]⟩ = newH x side fr s)
    (h3 : ∀ j i : Nat, j < hf ss → i < 64 → bt (D.getD (2 + side * hf ss + j) ⟨#[]⟩) (i : Int) = if fr ≤ 64 * j + i ∧ 64 * j + i < fr + s.size then bt s ((64 * j + i - fr : Nat) : Int) else bt (ss.getD (2 + side * hf ss + j) ⟨#[]⟩) (i : Int)) :
    opn D [] = .ok (((x + 1 : Nat) : Int), (side : Int), ((fr + s.size : Nat) : Int), l) := by
  obtain ⟨x1, x2, y1, z1⟩ := tops_range hT
  obtain ⟨⟨r1, r2, r3⟩, r4, r5⟩ := rightB_is.1 hr
  obtain ⟨⟨d1, d2, d3⟩, d4, d5⟩ := rightB_is.1 hD
  have hhf : hf D = hf ss := by unfold hf; rw [hl]
  have hroom : room ss.length = hf ss * 64 := rfl
  have hrl := room_le r2
  have a1 : (1 : Int) ≤ ((x + 1 : Nat) : Int) := by omega
  have a2 : ((x + 1 : Nat) : Int) ≤ 1099511627776 := by omega
  have a3 : ((x + 1 : Nat) : Int) % 2 = (((x + 1) % 2 : Nat) : Int) := by omega
  have a4 : (side : Int) ≤ 1 := by omega
  have a5 : ((fr + s.size : Nat) : Int) ≤ ((room ss.length : Nat) : Int) := by omega
  have a6 : (x : Int) < ((x + 1 : Nat) : Int) := by omega
  have a7 : fr + s.size < 4294967296 := by omega
  refine (opn_iff (by omega)).2 ⟨hD, by omega, ?_, ?_, hl'⟩
  · obtain ⟨g1, g2, g3, g4, g5⟩ := hT
    have e1 : 1 - (x + 1) % 2 = x % 2 := other_par x
    obtain ⟨n1, n2, n3⟩ := head_nums (s := newH x side fr s) (x := x + 1) (y := side) (z := fr + s.size) rfl (Nat.lt_of_le_of_lt (show x + 1 ≤ 1099511627776 from hx) (by decide)) (Nat.lt_of_le_of_lt hside (by decide)) a7
    unfold Tops
    rw [hl, h2, e1, h1]
    refine ⟨⟨?_, ?_, ?_, ?_, ?_, ?_⟩, n1, n2, n3, fun _ => ?_⟩
    · rw [n1]; exact a1
    · rw [n1]; exact a2
    · rw [n1, Int.tmod_eq_emod_of_nonneg (Int.natCast_nonneg _)]; exact a3
    · rw [n2]; exact a4
    · rw [n3]; exact a5
    · rw [n1, n2, n3]; rfl
    · rw [g2]; exact a6
  · rw [← hw]
    have zs := byts_size r4 h8 hside (z := fr) (by omega)
    have zd := byts_size d4 (by omega) hside (z := fr + s.size) (by rw [hl]; exact hfit)
    refine ba_ext (by rw [zd, app_size, zs]) fun p hp => ?_
    rw [zd] at hp
    rw [byts_bt d4 (by omega) hside (by rw [hl]; exact hfit) hp, hhf, h3 (p / 64) (p % 64) (by omega) (by omega), show 64 * (p / 64) + p % 64 = p by omega, bt_app, zs]
    by_cases c : p < fr
    · rw [if_neg (by omega), if_pos c, byts_bt r4 h8 hside (by omega) c]
    · rw [if_pos (by omega), if_neg c]
end
/-- What holds of what stood there, and of what was written, holds behind a crash. -/
theorem run_good (G : Nat → ByteArray → Prop) (a n : Nat) : ∀ (xs : List S55) (i : Nat) (l : List ByteArray) (last : Int), (∀ x ∈ xs, 0 ≤ x.f0 ∧ x.f0 < (n : Int) ∧ G x.f0.toNat x.f1) → l.length = n → (∀ p, p < n → G p (l.getD p ⟨#[]⟩)) → ∀ p, p < n → G p ((runC a xs i l last).1.getD p ⟨#[]⟩)
  | [], i, l, last, _, _, h3 => h3
  | x :: xs, i, l, last, h1, h2, h3 => by
    have hx := h1 x (by simp)
    have h1' := fun y hy => h1 y (List.mem_cons_of_mem _ hy)
    unfold runC
    split
    · refine run_good G a n xs (i + 1) _ last h1' (by rw [List.length_set]; exact h2) (fun p hp => ?_)
      by_cases c : x.f0.toNat = p
      · have e : (l.set x.f0.toNat x.f1).getD p ⟨#[]⟩ = x.f1 := by
          rw [List.getD_eq_getElem?_getD, c, List.getElem?_set_self (by omega)]
          rfl
        rw [e, ← c]
        exact hx.2.2
      · rw [List.getD_eq_getElem?_getD, List.getElem?_set_ne c, ← List.getD_eq_getElem?_getD]
        exact h3 p hp
    · exact run_good G a n xs (i + 1) l _ h1' h2 h3
theorem crash_good {ss : List ByteArray} {ws : List S55} (G : Nat → ByteArray → Prop) (hr : rightB ss ws = true) (h0 : ∀ p, p < ss.length → G p (ss.getD p ⟨#[]⟩)) (h1 : ∀ w ∈ ws, G w.f0.toNat w.f1) (h2 : ∀ w ∈ ws, ∀ (u : ByteArray) (n : Nat), u.size = 64 → G w.f0.toNat u → 1 ≤ n → n < 64 → G w.f0.toNat (tear n w.f1 u)) (a : Nat) (t : Int) (p : Nat) (hp : p < ss.length) : G p ((crashB ss ws a t).getD p ⟨#[]⟩) := by
  obtain ⟨⟨r1, r2, r3⟩, r4, r5⟩ := rightB_is.1 hr
  obtain ⟨i1, i2, i3, i4⟩ := runC_is a ss.length ws 0 ss (-1) r5 rfl r4 (by omega) (by omega)
  have hf := run_good G a ss.length ws 0 ss (-1) (fun x hx => ⟨(r5 x hx).1, (r5 x hx).2.1, h1 x hx⟩) rfl h0
  unfold crashB finC
  generalize runC a ws 0 ss (-1) = q at *
  split
  · rename_i c
    have hg : ws[q.2.toNat]? = some ws[q.2.toNat] := List.getElem?_eq_getElem (by omega)
    rw [hg]
    have hm := List.mem_of_getElem? hg
    have hx := r5 _ hm
    generalize ws[q.2.toNat] = x at hx hm
    dsimp only
    by_cases c2 : x.f0.toNat = p
    · have e : (q.1.set x.f0.toNat (tear t.toNat x.f1 (q.1.getD x.f0.toNat ⟨#[]⟩))).getD p ⟨#[]⟩ = tear t.toNat x.f1 (q.1.getD p ⟨#[]⟩) := by
        rw [List.getD_eq_getElem?_getD, c2, List.getElem?_set_self (by omega)]
        rfl
      have hys := getD_size i2 (a := p) (by omega)
      rw [e, ← c2]
      rw [← c2] at hys hp
      exact h2 x hm _ _ hys (hf _ hp) (by omega) (by omega)
    · rw [List.getD_eq_getElem?_getD, List.getElem?_set_ne c2, ← List.getD_eq_getElem?_getD]
      exact hf p hp
  · exact hf p hp
theorem tear_bt (n j : Nat) (x y : ByteArray) (hn : n ≤ 64) (hx : x.size = 64) (hj : j < 64) (hy : y.size = 64) : bt (tear n x y) (j : Int) = if j < n then bt x (j : Int) else bt y (j : Int) := by
  have zl : (x.extract 0 n).size = n := by rw [ext_size _ _ _ (by omega)]; rfl
  unfold tear
  rw [bt_app, zl]
  by_cases c : j < n
  · rw [if_pos c, if_pos c, bt_ext, if_pos (by omega), Nat.zero_add]
  · rw [if_neg c, if_neg c, bt_ext, if_pos (by omega), show n + (j - n) = j by omega]
/-! ### what a plan makes -/
theorem wts_is {n z : Nat} {l : List ByteArray} : wts n z l = 0 ↔ (∀ s ∈ l, s.size ≤ 1000) ∧ l.length ≤ 16 ∧ (whole l).size ≤ 3000 ∧ z + (whole l).size ≤ room n := by
  unfold wts
  cases hl : longs l with
  | true =>
    rw [if_pos rfl]
    constructor
    · intro h
      exact absurd h (by decide)
    · intro h
      rw [longs_of h.1] at hl
      exact absurd hl (by decide)
  | false =>
    rw [if_neg (by decide)]
    generalize whole l = w
    constructor
    · intro h
      split at h
      · exact absurd h (by decide)
      · rename_i h2
        exact ⟨longs_not hl, by omega, by omega, by omega⟩
    · rintro ⟨_, h1, h2, h3⟩
      rw [if_neg (by omega)]
structure Good (ss : List ByteArray) (x y z : Nat) (g r : List ByteArray) : Prop where
  hr : rightB ss [] = true
  h8 : 8 ≤ ss.length
  hT : Tops ss x y z
  hb : byts ss y z = whole r
  hrr : ∀ d ∈ r, d.size ≤ 4096
  hg : wts ss.length z g = 0
theorem Good.opn {ss : List ByteArray} {x y z : Nat} {g r : List ByteArray} (h : Good ss x y z g r) : opn ss [] = .ok ((x : Int), (y : Int), (z : Int), r) := (opn_iff (tops_range h.hT).1).2 ⟨h.hr, h.h8, h.hT, h.hb, h.hrr⟩
theorem opn_good {ss : List ByteArray} {x y z : Nat} {r : List ByteArray} (hx : 1 ≤ x) (h : opn ss [] = .ok ((x : Int), (y : Int), (z : Int), r)) : Good ss x y z [] r := by
  obtain ⟨h1, h2, h3, h4, h5⟩ := (opn_iff hx).1 h
  refine ⟨h1, h2, h3, h4, h5, wts_is.2 ⟨fun s hs => absurd hs (List.not_mem_nil), Nat.zero_le _, Nat.zero_le _, ?_⟩⟩
  have := (tops_range h3).2.2.2
  exact this
theorem Good.right {ss : List ByteArray} {x y z : Nat} {g r : List ByteArray} (h : Good ss x y z g r) : rightJ ss [] x y z g r = true := by
  unfold rightJ
  rw [h.opn]
  simp only [Int.toNat_natCast, h.hg]
  rfl
theorem right_good {ss : List ByteArray} {ws : List S55} {x y z : Int} {g r : List ByteArray} (h : rightJ ss ws x y z g r = true) : ws = [] ∧ ∃ X Y Z : Nat, x = X ∧ y = Y ∧ z = Z ∧ Good ss X Y Z g r := by
  unfold rightJ at h
  cases ho : Pure.opn ss ws with
  | error e =>
    rw [ho] at h
    exact absurd h Bool.false_ne_true
  | ok p =>
    rw [ho] at h
    simp only [Bool.and_eq_true, decide_eq_true_eq] at h
    obtain ⟨hp, hw⟩ := h
    subst hp
    obtain ⟨q1, q2, q3, x', y', z', e1, e2, e3, b1, b2, b3, b4, b5, b6, b7⟩ := opn_ok ho
    simp only at e1 e2 e3 b6 b7
    subst e1 e2 e3 q3
    rw [Int.toNat_natCast] at hw
    exact ⟨rfl, x', y', z', rfl, rfl, rfl, q1, q2, (best_tops b1).1 b5, b6, b7, hw⟩
/-- A plan that fits. -/
structure Fits (ss : List ByteArray) (x y z : Nat) (r : List ByteArray) (side fr : Nat) (s : ByteArray) (l : List ByteArray) : Prop where
  hr : rightB ss [] = true
  h8 : 8 ≤ ss.length
  hT : Tops ss x y z
  hb : byts ss y z = whole r
  hrr : ∀ d ∈ r, d.size ≤ 4096
  hx : x < 1099511627776
  hfit : fr + s.size ≤ room ss.length
  hs : s.size ≤ 3014
  hw : byts ss side fr ++ s = whole l
  hl' : ∀ d ∈ l, d.size ≤ 4096
  how : (side = y ∧ fr = z) ∨ (side = 1 - y ∧ fr = 0)
namespace Fits
variable {ss : List ByteArray} {x y z side fr : Nat} {s : ByteArray} {l r : List ByteArray}
theorem side_le (h : Fits ss x y z r side fr s l) : side ≤ 1 := by
  have h1 := (tops_range h.hT).2.2.1
  have h2 := h.how
  omega
theorem firstW_right (h : Fits ss x y z r side fr s l) : rightB ss (firstW ss x side fr s) = true := Pure.firstW_right h.hr h.h8 h.side_le h.hfit h.hs
theorem disk1_right (h : Fits ss x y z r side fr s l) : rightB (disk1 ss x side fr s) [] = true := crash_right h.firstW_right ALL 0
theorem disk1_len (h : Fits ss x y z r side fr s l) : (disk1 ss x side fr s).length = ss.length := (crashB_is h.firstW_right ALL 0).1
theorem wr_at (h : Fits ss x y z r side fr s l) : ∀ w ∈ wrH ss side fr s, ∃ j, fr / 64 ≤ j ∧ j < hf ss ∧ w.f0 = ((2 + side * hf ss + j : Nat) : Int) ∧ w.f1.size = 64 ∧ ∀ i : Nat, i < 64 → 64 * j + i < fr → bt w.f1 (i : Int) = bt (ss.getD (2 + side * hf ss + j) ⟨#[]⟩) (i : Int) := wrH_spec h.hr h.h8 h.side_le h.hfit
theorem low (h : Fits ss x y z r side fr s l) (a : Nat) (ha : a < 2) (u : ByteArray) : getF (a : Int) (wrH ss side fr s) u = u := by
  refine getF_none fun w hw => ?_
  obtain ⟨j, _, _, e, _⟩ := h.wr_at w hw
  rw [e]
  generalize side * hf ss = q
  omega
theorem at_keep (h : Fits ss x y z r side fr s l) (u : ByteArray) : getF ((x % 2 : Nat) : Int) (firstW ss x side fr s) u = u := by
  unfold firstW
  rw [getF_app, h.low _ (by omega)]
  refine getF_none fun w hw => ?_
  rw [List.mem_singleton] at hw
  subst hw
  show (((x + 1) % 2 : Nat) : Int) ≠ _
  omega
theorem at_head (h : Fits ss x y z r side fr s l) (u : ByteArray) : getF (((x + 1) % 2 : Nat) : Int) (firstW ss x side fr s) u = Z64 := by
  unfold firstW
  rw [getF_app]
  exact if_pos rfl
theorem at_high (a : Nat) (ha : 2 ≤ a) (u : ByteArray) : getF (a : Int) (firstW ss x side fr s) u = getF (a : Int) (wrH ss side fr s) u := by
  unfold firstW
  rw [getF_app]
  refine getF_none fun w hw => ?_
  rw [List.mem_singleton] at hw
  subst hw
  show (((x + 1) % 2 : Nat) : Int) ≠ _
  omega
/-- A half's sector behind the plan's bytes. -/
theorem at_side (h : Fits ss x y z r side fr s l) (j i : Nat) (hj : j < hf ss) (hi : i < 64) : bt (getF ((2 + side * hf ss + j : Nat) : Int) (firstW ss x side fr s) (ss.getD (2 + side * hf ss + j) ⟨#[]⟩)) (i : Int) = if fr ≤ 64 * j + i ∧ 64 * j + i < fr + s.size then bt s ((64 * j + i - fr : Nat) : Int) else bt (ss.getD (2 + side * hf ss + j) ⟨#[]⟩) (i : Int) := by
  obtain ⟨s1, s2⟩ := sides h.h8 h.side_le
  obtain ⟨⟨r1, r2, r3⟩, r4, r5⟩ := rightB_is.1 h.hr
  have hfit := h.hfit
  rw [at_high _ (by generalize side * hf ss = q; omega)]
  exact wr_all (2 + side * hf ss) (fun j => ss.getD (2 + side * hf ss + j) ⟨#[]⟩) (hf ss) (fun j hj => getD_size r4 (by omega)) s.size fr s (Nat.le_refl _) (by omega) j i hj hi
/-- What was read stays. -/
theorem at_old (h : Fits ss x y z r side fr s l) (j i : Nat) (hj : j < hf ss) (hi : i < 64) (hz : 64 * j + i < z) : bt (getF ((2 + y * hf ss + j : Nat) : Int) (firstW ss x side fr s) (ss.getD (2 + y * hf ss + j) ⟨#[]⟩)) (i : Int) = bt (ss.getD (2 + y * hf ss + j) ⟨#[]⟩) (i : Int) := by
  rcases h.how with ⟨e1, e2⟩ | ⟨e1, e2⟩
  · have := h.at_side j i hj hi
    rw [e1] at this
    rw [e1, this, if_neg (by omega)]
  · rw [at_high _ (by generalize y * hf ss = q; omega)]
    rw [getF_none]
    intro w hw
    obtain ⟨j', _, hj', e, _⟩ := h.wr_at w hw
    have hy := (tops_range h.hT).2.2.1
    rw [e, e1]
    have : y = 0 ∨ y = 1 := by omega
    generalize hf ss = H at hj hj'
    rcases this with rfl | rfl
    · simp only [Nat.sub_zero, Nat.one_mul, Nat.zero_mul]
      omega
    · simp only [Nat.sub_self, Nat.one_mul, Nat.zero_mul]
      omega
theorem disk1_getD (h : Fits ss x y z r side fr s l) {p : Nat} (hp : p < ss.length) : (disk1 ss x side fr s).getD p ⟨#[]⟩ = getF (p : Int) (firstW ss x side fr s) (ss.getD p ⟨#[]⟩) := flush_getD h.firstW_right hp
theorem newH_size : (newH x side fr s).size = 64 := hdI_size _ _ _
theorem secondW_right (h : Fits ss x y z r side fr s l) : rightB (disk1 ss x side fr s) (secondW x side fr s) = true := by
  have h8 := h.h8
  exact rightB_add (W := []) h.disk1_right (by decide) (by rw [h.disk1_len]; omega) newH_size
/-- A crash that is not late leaves what was. -/
theorem crash1 (h : Fits ss x y z r side fr s l) (a : Nat) (t : Int) : Pure.opn (crashB ss (firstW ss x side fr s) a t) [] = .ok ((x : Int), (y : Int), (z : Int), r) := by
  have hW := h.firstW_right
  have hlen := (crashB_is hW a t).1
  have h8 := h.h8
  have hpar : x % 2 < 2 ∧ 1 - x % 2 < 2 := by omega
  have hT5 := h.hT.2.2.2.2
  have key := crash_good (fun p u => (p = x % 2 → u = ss.getD p ⟨#[]⟩) ∧ (p = 1 - x % 2 → isHead ((1 - x % 2 : Nat) : Int) ss.length u → sT u < x) ∧ (∀ j, j < hf ss → p = 2 + y * hf ss + j → ∀ i : Nat, i < 64 → 64 * j + i < z → bt u (i : Int) = bt (ss.getD p ⟨#[]⟩) (i : Int))) hW
    (fun p hp => ⟨fun _ => rfl, fun e => by rw [e]; exact hT5, fun _ _ _ _ _ _ => rfl⟩)
  have zno : ∀ (u : ByteArray), bt u ((0 : Nat) : Int) = 0 → ¬ isHead ((1 - x % 2 : Nat) : Int) ss.length u := by
    intro u hu hh
    have := (head_bt0 hh).1
    rw [show (0 : Int) = ((0 : Nat) : Int) from rfl, hu] at this
    exact absurd this (by decide)
  have hmem : ∀ w ∈ firstW ss x side fr s, (∃ j, j < hf ss ∧ w.f0 = ((2 + side * hf ss + j : Nat) : Int) ∧ w.f1.size = 64 ∧ ∀ i : Nat, i < 64 → 64 * j + i < fr → bt w.f1 (i : Int) = bt (ss.getD (2 + side * hf ss + j) ⟨#[]⟩) (i : Int)) ∨ (w.f0 = ((1 - x % 2 : Nat) : Int) ∧ w.f1 = Z64) := by
    intro w hw
    rcases List.mem_append.1 hw with hw | hw
    · obtain ⟨j, _, g2, g3, g4, g5⟩ := h.wr_at w hw
      exact .inl ⟨j, g2, g3, g4, g5⟩
    · rw [List.mem_singleton] at hw
      subst hw
      refine .inr ⟨?_, rfl⟩
      show (((x + 1) % 2 : Nat) : Int) = _
      omega
  have hhalf : ∀ j j', j < hf ss → j' < hf ss → 2 + side * hf ss + j = 2 + y * hf ss + j' → side = y ∧ fr = z ∧ j = j' := by
    intro j j' hj hj' e
    have hy := (tops_range h.hT).2.2.1
    have : y = 0 ∨ y = 1 := by omega
    rcases h.how with ⟨e1, e2⟩ | ⟨e1, e2⟩
    · rw [e1] at e
      exact ⟨e1, e2, by omega⟩
    · exfalso
      rw [e1] at e
      generalize hf ss = H at hj hj' e
      rcases this with rfl | rfl
      · simp only [Nat.sub_zero, Nat.one_mul, Nat.zero_mul] at e
        omega
      · simp only [Nat.sub_self, Nat.one_mul, Nat.zero_mul] at e
        omega
  replace key := key
    (fun w hw => by
      rcases hmem w hw with ⟨j, g1, g2, g3, g4⟩ | ⟨g1, g2⟩
      · rw [g2, Int.toNat_natCast]
        refine ⟨fun e => ?_, fun e => ?_, fun j' hj' e i hi hz => ?_⟩
        · exfalso
          generalize side * hf ss = q at e
          omega
        · exfalso
          generalize side * hf ss = q at e
          omega
        · obtain ⟨e1, e2, e3⟩ := hhalf j j' g1 hj' e
          subst e3
          exact g4 i hi (by omega)
      · rw [g1, g2, Int.toNat_natCast]
        refine ⟨fun e => ?_, fun _ hh => absurd hh (zno _ (Z64_bt 0 (by decide))), fun j' hj' e i hi hz => ?_⟩
        · exfalso
          omega
        · exfalso
          generalize y * hf ss = q at e
          omega)
    (fun w hw u n hu hG h1 h2 => by
      rcases hmem w hw with ⟨j, g1, g2, g3, g4⟩ | ⟨g1, g2⟩
      · rw [g2, Int.toNat_natCast] at hG ⊢
        refine ⟨fun e => ?_, fun e => ?_, fun j' hj' e i hi hz => ?_⟩
        · exfalso
          generalize side * hf ss = q at e
          omega
        · exfalso
          generalize side * hf ss = q at e
          omega
        · obtain ⟨e1, e2, e3⟩ := hhalf j j' g1 hj' e
          subst e3
          rw [tear_bt n i _ _ (by omega) g3 hi hu]
          split
          · exact g4 i hi (by omega)
          · exact hG.2.2 j hj' e i hi hz
      · rw [g1, Int.toNat_natCast] at hG ⊢
        rw [g2]
        refine ⟨fun e => ?_, fun _ hh => absurd hh (zno _ ?_), fun j' hj' e i hi hz => ?_⟩
        · exfalso
          omega
        · rw [tear_bt n 0 _ _ (by omega) Z64_size (by decide) hu, if_pos (by omega)]
          exact Z64_bt 0 (by decide)
        · exfalso
          generalize y * hf ss = q at e
          omega)
    a t
  obtain ⟨s1, s2⟩ := sides (side := y) h8 (tops_range h.hT).2.2.1
  refine open_old h.hT h.hb h.hrr h.hr h8 (crash_right hW a t) hlen ((key _ (by omega)).1 rfl) ((key _ (by omega)).2.1 rfl) fun j i hj hi hz => ?_
  exact (key _ (by omega)).2.2 j hj rfl i hi hz
theorem tear_tear {A Z : ByteArray} (n m : Nat) (hn : n ≤ 64) (hm : m ≤ 64) (hA : A.size = 64) (hZ : Z.size = 64) : tear n A (tear m A Z) = tear (max n m) A Z := by
  have h1 := tear_size m A Z hm hA hZ
  have h2 := tear_size n A (tear m A Z) hn hA h1
  have h3 := tear_size (max n m) A Z (by omega) hA hZ
  refine ba_ext (h2.trans h3.symm) fun i hi => ?_
  rw [h2] at hi
  rw [tear_bt n i _ _ hn hA hi h1, tear_bt m i _ _ hm hA hi hZ, tear_bt (max n m) i _ _ (by omega) hA hi hZ]
  by_cases c1 : i < n
  · rw [if_pos c1, if_pos (by omega)]
  · by_cases c2 : i < m
    · rw [if_neg c1, if_pos c2, if_pos (by omega)]
    · rw [if_neg c1, if_neg c2, if_neg (by omega)]
theorem tear_0 {A Z : ByteArray} (hA : A.size = 64) (hZ : Z.size = 64) : tear 0 A Z = Z := by
  have h1 := tear_size 0 A Z (by decide) hA hZ
  refine ba_ext (h1.trans hZ.symm) fun i hi => ?_
  rw [h1] at hi
  rw [tear_bt 0 i _ _ (by decide) hA hi hZ, if_neg (by omega)]
theorem tear_64 {A Z : ByteArray} (hA : A.size = 64) (hZ : Z.size = 64) : tear 64 A Z = A := by
  have h1 := tear_size 64 A Z (by decide) hA hZ
  refine ba_ext (h1.trans hA.symm) fun i hi => ?_
  rw [h1] at hi
  rw [tear_bt 64 i _ _ (by decide) hA hi hZ, if_pos hi]
theorem crash2_is (h : Fits ss x y z r side fr s l) (a : Nat) (t : Int) : (∀ p, p < ss.length → p ≠ (x + 1) % 2 → (crashB (disk1 ss x side fr s) (secondW x side fr s) a t).getD p ⟨#[]⟩ = (disk1 ss x side fr s).getD p ⟨#[]⟩) ∧ ∃ m, m ≤ 64 ∧ (crashB (disk1 ss x side fr s) (secondW x side fr s) a t).getD ((x + 1) % 2) ⟨#[]⟩ = tear m (newH x side fr s) Z64 := by
  have h8 := h.h8
  have hlen := h.disk1_len
  have key := crash_good (fun p u => (p ≠ (x + 1) % 2 → u = (disk1 ss x side fr s).getD p ⟨#[]⟩) ∧ (p = (x + 1) % 2 → ∃ m, m ≤ 64 ∧ u = tear m (newH x side fr s) Z64)) h.secondW_right
    (fun p hp => ⟨fun _ => rfl, fun e => ⟨0, by decide, by rw [tear_0 newH_size Z64_size, e, h.disk1_getD (by omega), h.at_head]⟩⟩)
    (fun w hw => by
      rw [secondW, List.mem_singleton] at hw
      subst hw
      simp only [Int.toNat_natCast]
      exact ⟨fun e => absurd rfl e, fun _ => ⟨64, by decide, (tear_64 newH_size Z64_size).symm⟩⟩)
    (fun w hw u n hu hG h1 h2 => by
      rw [secondW, List.mem_singleton] at hw
      subst hw
      simp only [Int.toNat_natCast] at hG ⊢
      refine ⟨fun e => absurd rfl e, fun _ => ?_⟩
      obtain ⟨m, hm, e⟩ := hG.2 trivial
      exact ⟨max n m, by omega, by rw [e, tear_tear n m (by omega) hm newH_size Z64_size]⟩)
    a t
  exact ⟨fun p hp hne => (key p (by omega)).1 hne, (key _ (by omega)).2 rfl⟩
theorem disk2_right (h : Fits ss x y z r side fr s l) (a : Nat) (t : Int) : rightB (crashB (disk1 ss x side fr s) (secondW x side fr s) a t) [] = true := crash_right h.secondW_right a t
theorem disk2_len (h : Fits ss x y z r side fr s l) (a : Nat) (t : Int) : (crashB (disk1 ss x side fr s) (secondW x side fr s) a t).length = ss.length := (crashB_is h.secondW_right a t).1.trans h.disk1_len
theorem new_opens (h : Fits ss x y z r side fr s l) (a : Nat) (t : Int) (hn : (crashB (disk1 ss x side fr s) (secondW x side fr s) a t).getD ((x + 1) % 2) ⟨#[]⟩ = newH x side fr s) : Pure.opn (crashB (disk1 ss x side fr s) (secondW x side fr s) a t) [] = .ok (((x + 1 : Nat) : Int), (side : Int), ((fr + s.size : Nat) : Int), l) := by
  have h8 := h.h8
  obtain ⟨k1, _⟩ := h.crash2_is a t
  obtain ⟨s1, s2⟩ := sides h8 h.side_le
  refine open_new h.hT h.hx h.hr h8 h.side_le h.hfit (h.disk2_right a t) (h.disk2_len a t) h.hw h.hl' ?_ hn fun j i hj hi => ?_
  · rw [k1 _ (by omega) (by omega), h.disk1_getD (by omega), h.at_keep]
  · have hne : 2 + side * hf ss + j ≠ (x + 1) % 2 := by
      generalize side * hf ss = q
      omega
    rw [k1 _ (by omega) hne, h.disk1_getD (by omega), h.at_side j i hj hi]
/-- A late crash leaves what was, or what would be. -/
theorem crash2 (h : Fits ss x y z r side fr s l) (a : Nat) (t : Int) : Pure.opn (crashB (disk1 ss x side fr s) (secondW x side fr s) a t) [] = .ok ((x : Int), (y : Int), (z : Int), r) ∨ Pure.opn (crashB (disk1 ss x side fr s) (secondW x side fr s) a t) [] = .ok (((x + 1 : Nat) : Int), (side : Int), ((fr + s.size : Nat) : Int), l) := by
  have h8 := h.h8
  obtain ⟨k1, m, hm, k2⟩ := h.crash2_is a t
  by_cases hh : isHead ((1 - x % 2 : Nat) : Int) ss.length (tear m (newH x side fr s) Z64)
  · right
    refine h.new_opens a t ?_
    rw [k2]
    exact torn_head hm hh
  · left
    obtain ⟨s1, s2⟩ := sides (side := y) h8 (tops_range h.hT).2.2.1
    have e1 : 1 - x % 2 = (x + 1) % 2 := by omega
    refine open_old h.hT h.hb h.hrr h.hr h8 (h.disk2_right a t) (h.disk2_len a t) ?_ ?_ fun j i hj hi hz => ?_
    · rw [k1 _ (by omega) (by omega), h.disk1_getD (by omega), h.at_keep]
    · intro hd
      rw [e1, k2, ← e1] at hd
      exact absurd hd hh
    · have hne : 2 + y * hf ss + j ≠ (x + 1) % 2 := by
        generalize y * hf ss = q
        omega
      rw [k1 _ (by omega) hne, h.disk1_getD (by omega), h.at_old j i hj hi hz]
def disk2 (ss : List ByteArray) (x side fr : Nat) (s : ByteArray) : List ByteArray := crashB (disk1 ss x side fr s) (secondW x side fr s) ALL 0
/-- What is sealed. -/
theorem sealed_opens (h : Fits ss x y z r side fr s l) : Pure.opn (disk2 ss x side fr s) [] = .ok (((x + 1 : Nat) : Int), (side : Int), ((fr + s.size : Nat) : Int), l) := by
  have h8 := h.h8
  refine h.new_opens ALL 0 ?_
  rw [flush_getD h.secondW_right (by rw [h.disk1_len]; omega)]
  exact if_pos rfl
theorem second_tells (h : Fits ss x y z r side fr s l) (k : Nat) (hk : 20000 ≤ k) (hk2 : k ≤ 1000000) (Y Z : Int) (g r' : List ByteArray) : journal_plan_second.f k side fr s ss [] x Y Z g r' = some (disk1 ss x side fr s, secondW x side fr s) := by
  obtain ⟨⟨r1, r2, r3⟩, r4, r5⟩ := rightB_is.1 h.hr
  have h8 := h.h8
  have hx := h.hx
  have hlen := h.disk1_len
  have hfit := h.hfit
  have hrl := room_le r2
  obtain ⟨_, _, hwl⟩ := (rightB_is.1 h.firstW_right).1
  have hp := put_ok k hk2 (ss := disk1 ss x side fr s) (W := []) (a := (x + 1) % 2) (d := newH x side fr s) (by omega) (by omega) h.disk1_right (by decide) (by omega) newH_size
  have e0 : wrap64 ((x : Int) + 1) = ((x + 1 : Nat) : Int) := (wrap64_id (by omega) (by omega)).trans (by omega)
  have e1 : ((x + 1 : Nat) : Int).tmod 2 = (((x + 1) % 2 : Nat) : Int) := by
    rw [Int.tmod_eq_emod_of_nonneg (Int.natCast_nonneg _)]
    omega
  have e2 : wrap64 ((fr : Int) + (s.size : Int)) = ((fr + s.size : Nat) : Int) := (wrap64_id (by omega) (by omega)).trans (by omega)
  unfold journal_plan_second.f
  rw [first_tells k hk hk2 Y Z g r' h.hr h8 h.side_le hfit h.hs (by omega), Option.bind_some]
  simp only
  rw [flush_tells k ss _ (by omega) (by omega) hk2, if_pos h.firstW_right, Option.bind_some]
  simp only
  rw [e0, e1, e2, headOf_tells k (by omega), Option.bind_some, sector_tells, Option.bind_some]
  exact (congrArg (fun o => Option.bind o _) hp).trans rfl
theorem sealed_tells (h : Fits ss x y z r side fr s l) (k : Nat) (hk : 20000 ≤ k) (hk2 : k ≤ 1000000) (Y Z : Int) (g r' : List ByteArray) : journal_plan_sealed.f k side fr s ss [] x Y Z g r' = some (disk2 ss x side fr s, [], ((x + 1 : Nat) : Int), (side : Int), ((fr + s.size : Nat) : Int), [], l, 0) := by
  obtain ⟨⟨r1, r2, r3⟩, r4, r5⟩ := rightB_is.1 h.hr
  have hlen := h.disk1_len
  have hlen2 := h.disk2_len ALL 0
  obtain ⟨_, _, hwl⟩ := (rightB_is.1 h.secondW_right).1
  unfold journal_plan_sealed.f
  rw [h.second_tells k hk hk2, Option.bind_some]
  simp only
  rw [flush_tells k _ _ (by omega) (by omega) hk2, if_pos h.secondW_right, Option.bind_some]
  simp only
  show ((journal_Open.f k (disk2 ss x side fr s) []).bind _) = _
  rw [open_tells k hk hk2 _ _ (by unfold disk2; omega) (by rw [List.length_nil]; omega), h.sealed_opens, Option.bind_some]
  rfl
end Fits
theorem byts_0 (ss : List ByteArray) (y : Nat) : byts ss y 0 = ⟨#[]⟩ := by
  unfold byts
  exact size_zero (by rw [ext_size _ _ _ (Nat.zero_le _)])
section
variable {ss : List ByteArray} {x y z : Nat} {g r : List ByteArray}
theorem Good.fits (h : Good ss x y z g r) (hx : x < 1099511627776) : Fits ss x y z r y z (whole g) (r ++ g) := by
  obtain ⟨g1, g2, g3, g4⟩ := wts_is.1 h.hg
  refine ⟨h.hr, h.h8, h.hT, h.hb, h.hrr, hx, g4, by omega, by rw [h.hb, whole_app], fun d hd => ?_, .inl ⟨rfl, rfl⟩⟩
  rcases List.mem_append.1 hd with hd | hd
  · exact h.hrr d hd
  · exact Nat.le_trans (g1 d hd) (by decide)
theorem Good.fits1 (h : Good ss x y z g r) (hx : x < 1099511627776) {d : ByteArray} (hd : d.size ≤ 3000) (hfit : (whole [d]).size ≤ room ss.length) : Fits ss x y z r (1 - y) 0 (whole [d]) [d] := by
  refine ⟨h.hr, h.h8, h.hT, h.hb, h.hrr, hx, by omega, ?_, by rw [byts_0, nil_app], fun e he => ?_, .inr ⟨rfl, rfl⟩⟩
  · have := whole_le (l := [d]) (c := 3000) (fun e he => by rw [List.mem_singleton] at he; rw [he]; exact hd) (by decide)
    have h2 := (frm_size (d := d) (by omega)).2
    rw [whole, whole, app_nil]
    omega
  · rw [List.mem_singleton] at he
    rw [he]
    omega
theorem Good.range (h : Good ss x y z g r) : 1 ≤ x ∧ x ≤ 1099511627776 ∧ y ≤ 1 ∧ z ≤ room ss.length ∧ ss.length ≤ 512 := by
  obtain ⟨⟨r1, r2, r3⟩, r4, r5⟩ := rightB_is.1 h.hr
  obtain ⟨t1, t2, t3, t4⟩ := tops_range h.hT
  exact ⟨t1, t2, t3, t4, r2⟩
end
/-! ### what a journal's functions do -/
abbrev JT := List ByteArray × List S55 × Int × Int × Int × List ByteArray × List ByteArray × Int
def noJ (e : Int) : JT := ([], [], 0, 0, 0, [], [], e)
theorem append_tells (k : Nat) (hk : 20000 ≤ k) (hk2 : k ≤ 1000000) (ss : List ByteArray) (ws : List S55) (x y z : Int) (g r : List ByteArray) (d : ByteArray) (h1 : ss.length < k) (h2 : ws.length < k) (hg : g.length < 900) :
    journal_Append.f k ss ws x y z g r d = some (if rightJ ss ws x y z g r = true then (if wts ss.length z.toNat (g ++ [d]) = 0 then (ss, ws, x, y, z, g ++ [d], r, 0) else noJ (wts ss.length z.toNat (g ++ [d]))) else noJ 1) := by
  unfold journal_Append.f
  rw [right_j k hk hk2 ss ws x y z g r h1 h2 (by omega), Option.bind_some]
  by_cases hr : rightJ ss ws x y z g r = true
  · obtain ⟨rfl, X, Y, Z, rfl, rfl, rfl, hG⟩ := right_good hr
    obtain ⟨t1, t2, t3, t4, t5⟩ := hG.range
    have hrl := room_le t5
    have h8 := hG.h8
    have e : ([d] : List ByteArray).length = 1 := rfl
    rw [if_pos hr, if_pos hr]
    unfold slices_Clip_string_string.f
    rw [Option.bind_some, e, if_pos (by omega), waits_tells k (by omega) ss [] X Y Z g r (g ++ [d]) (by omega) t5 (by omega) (by rw [List.length_append, e]; omega), Option.bind_some, Int.toNat_natCast]
    by_cases hw : wts ss.length Z (g ++ [d]) = 0
    · rw [if_pos hw, if_pos hw]
    · rw [if_neg hw, if_neg hw]
      rfl
  · rw [if_neg hr, if_neg hr]
    rfl
section
variable {ss : List ByteArray} {x y z : Nat} {g r : List ByteArray}
theorem Good.frames (h : Good ss x y z g r) (k : Nat) (hk : 20000 ≤ k) : journal_frames.f k g = some (whole g) := by
  obtain ⟨g1, g2, _⟩ := wts_is.1 h.hg
  exact frames_tells k (by omega) (fun s hs => Nat.le_trans (g1 s hs) (by decide)) (by omega)
theorem Good.rj (h : Good ss x y z g r) (k : Nat) (hk : 20000 ≤ k) (hk2 : k ≤ 1000000) : journal_Right.f k ss [] x y z g r = some true := by
  obtain ⟨t1, t2, t3, t4, t5⟩ := h.range
  obtain ⟨_, g2, _⟩ := wts_is.1 h.hg
  rw [right_j k hk hk2 ss [] x y z g r (by omega) (by rw [List.length_nil]; omega) (by omega), h.right]
theorem commit_full (h : Good ss x y z g r) (k : Nat) (hk : 20000 ≤ k) (hk2 : k ≤ 1000000) (hx : x = 1099511627776) : journal_Commit.f k ss [] x y z g r = some (noJ 7) := by
  unfold journal_Commit.f
  rw [h.rj k hk hk2, Option.bind_some, if_pos rfl, if_pos (by omega)]
  rfl
theorem commit_ok (h : Good ss x y z g r) (k : Nat) (hk : 20000 ≤ k) (hk2 : k ≤ 1000000) (hx : x < 1099511627776) : journal_Commit.f k ss [] x y z g r = some (Fits.disk2 ss x y z (whole g), [], ((x + 1 : Nat) : Int), (y : Int), ((z + (whole g).size : Nat) : Int), [], r ++ g, 0) := by
  unfold journal_Commit.f journal_groups.f
  rw [h.rj k hk hk2, Option.bind_some, if_pos rfl, if_neg (by omega), h.frames k hk, Option.bind_some, Option.bind_some]
  simp only
  rw [(h.fits hx).sealed_tells k hk hk2, Option.bind_some]
end
theorem commit_bad (k : Nat) (hk : 20000 ≤ k) (hk2 : k ≤ 1000000) (ss : List ByteArray) (ws : List S55) (x y z : Int) (g r : List ByteArray) (h1 : ss.length < k) (h2 : ws.length < k) (hg : g.length < 900) (h : ¬ rightJ ss ws x y z g r = true) : journal_Commit.f k ss ws x y z g r = some (noJ 1) := by
  unfold journal_Commit.f
  rw [right_j k hk hk2 ss ws x y z g r h1 h2 (by omega), Option.bind_some, if_neg h]
  rfl
/-! ### a new journal -/
def raw (n : Nat) : List ByteArray := List.replicate n Z64
def fmt (n : Nat) : List ByteArray := crashB (raw n) [⟨1, hdI 1 0 0⟩] ALL 0
theorem raw_right {n : Nat} (h : 8 ≤ n) (h2 : n ≤ 512) : rightB (raw n) [] = true := by
  refine rightB_is.2 ⟨⟨?_, ?_, Nat.zero_le _⟩, fun x hx => ?_, fun x hx => absurd hx (List.not_mem_nil)⟩
  · rw [raw, List.length_replicate]; omega
  · rw [raw, List.length_replicate]; omega
  · rw [(List.mem_replicate.1 hx).2]; exact Z64_size
theorem raw_right1 {n : Nat} (h : 8 ≤ n) (h2 : n ≤ 512) : rightB (raw n) [⟨1, hdI 1 0 0⟩] = true := rightB_add (W := []) (a := 1) (raw_right h h2) (by decide) (by rw [raw, List.length_replicate]; omega) (hdI_size _ _ _)
theorem fmt_len {n : Nat} (h : 8 ≤ n) (h2 : n ≤ 512) : (fmt n).length = n := by
  unfold fmt
  rw [(crashB_is (raw_right1 h h2) ALL 0).1, raw, List.length_replicate]
theorem raw_getD {n p : Nat} (h : p < n) : (raw n).getD p ⟨#[]⟩ = Z64 := by
  unfold raw
  rw [List.getD_eq_getElem?_getD, List.getElem?_replicate, if_pos h]
  rfl
theorem fmt_getD {n p : Nat} (h : 8 ≤ n) (h2 : n ≤ 512) (hp : p < n) : (fmt n).getD p ⟨#[]⟩ = if p = 1 then hdI 1 0 0 else Z64 := by
  unfold fmt
  rw [flush_getD (raw_right1 h h2) (by rw [raw, List.length_replicate]; omega), raw_getD hp]
  show (if (1 : Int) = (p : Int) then hdI 1 0 0 else Z64) = _
  by_cases c : p = 1
  · rw [if_pos (by omega), if_pos c]
  · rw [if_neg (by omega), if_neg c]
theorem no_head_Z {a : Int} {n : Nat} : ¬ isHead a n Z64 := by
  intro h
  have := (head_bt0 h).1
  rw [show (0 : Int) = ((0 : Nat) : Int) from rfl, Z64_bt 0 (by decide)] at this
  exact absurd this (by decide)
theorem fmt_good {n : Nat} (h : 8 ≤ n) (h2 : n ≤ 512) : Good (fmt n) 1 0 0 [] [] := by
  have hl := fmt_len h h2
  refine opn_good (by decide) ((opn_iff (by decide)).2 ⟨crash_right (raw_right1 h h2) ALL 0, by omega, ?_, byts_0 _ _, fun d hd => absurd hd (List.not_mem_nil)⟩)
  have g1 := fmt_getD h h2 (p := 1) (by omega)
  have g0 := fmt_getD h h2 (p := 0) (by omega)
  rw [if_pos rfl] at g1
  rw [if_neg (by decide)] at g0
  obtain ⟨n1, n2, n3⟩ := head_nums (s := hdI 1 0 0) (x := 1) (y := 0) (z := 0) rfl (by decide) (by decide) (by decide)
  unfold Tops
  rw [hl, show 1 % 2 = 1 from rfl, show 1 - 1 = 0 from rfl, g1, g0]
  refine ⟨⟨?_, ?_, ?_, ?_, ?_, ?_⟩, n1, n2, n3, fun hh => absurd hh no_head_Z⟩
  · rw [n1]; decide
  · rw [n1]; decide
  · rw [n1]; decide
  · rw [n2]; decide
  · rw [n3]; exact Int.natCast_nonneg _
  · rw [n1, n2, n3]; rfl
theorem repl_one {α : Type} (a : α) : ∀ n, repl [a] n = List.replicate n a
  | 0 => rfl
  | n + 1 => by rw [repl, repl_one a n]; rfl
theorem new_tells {n : Int} (h : 8 ≤ n) : disk_New.f n = some (if n > 512 then ([], [], 1) else (raw n.toNat, [], 0)) := by
  unfold disk_New.f
  rw [if_neg (by omega)]
  by_cases c : n > 512
  · rw [if_pos c, if_pos c]
  · have e : ([Z64] : List ByteArray).length = 1 := rfl
    rw [if_neg c, if_neg c, zeros_tells, Option.bind_some]
    unfold slices_Repeat_string_string.f
    rw [e, if_pos ⟨by decide, by omega, by omega⟩, Option.bind_some, repl_one]
    rfl
theorem format_bad (k : Nat) (n : Int) (h : n < 8 ∨ n > 512) : journal_Format.f k n = some (noJ 1) := by
  unfold journal_Format.f
  by_cases c : n < 8
  · rw [if_pos c]; rfl
  · rw [if_neg c, new_tells (by omega), Option.bind_some, if_pos (by omega)]
    rfl
theorem format_ok (k : Nat) (hk : 20000 ≤ k) (hk2 : k ≤ 1000000) (n : Nat) (h : 8 ≤ n) (h2 : n ≤ 512) : journal_Format.f k (n : Int) = some (fmt n, [], 1, 0, 0, [], [], 0) := by
  have hl := fmt_len h h2
  have hrl : (raw n).length = n := by rw [raw, List.length_replicate]
  have hp := put_ok k hk2 (ss := raw n) (W := []) (a := 1) (d := hdI 1 0 0) (by omega) (by omega) (raw_right h h2) (by decide) (by omega) (hdI_size _ _ _)
  unfold journal_Format.f
  rw [if_neg (by omega), new_tells (by omega), Option.bind_some, if_neg (by omega)]
  simp only
  rw [Int.toNat_natCast, if_pos trivial, headOf_tells k (by omega), Option.bind_some, sector_tells, Option.bind_some]
  refine (congrArg (fun o => Option.bind o _) hp).trans ?_
  rw [Option.bind_some]
  simp only
  rw [flush_tells k _ _ (by omega) (by rw [List.length_append]; show _ + 1 < _; rw [List.length_nil]; omega) hk2, List.nil_append]
  refine (congrArg (fun o => Option.bind o _) (congrArg some (if_pos (raw_right1 h h2)))).trans ?_
  rw [Option.bind_some]
  simp only
  show ((journal_Open.f k (fmt n) []).bind _) = _
  rw [open_tells k hk hk2 _ _ (by omega) (by rw [List.length_nil]; omega), (fmt_good h h2).opn, Option.bind_some]
  rfl
theorem wts_a : wts 8 0 [(⟨#[97]⟩ : ByteArray)] = 0 := by
  have h := (frm_size (d := (⟨#[97]⟩ : ByteArray)) (by decide)).2
  have h1 : (⟨#[97]⟩ : ByteArray).size = 1 := rfl
  refine wts_is.2 ⟨fun s hs => ?_, by decide, ?_, ?_⟩
  · rw [List.mem_singleton] at hs
    subst hs
    decide
  · rw [whole, whole, app_nil]; omega
  · rw [whole, whole, app_nil]
    show _ ≤ 192
    omega
theorem alive_tells (k : Nat) (hk : 20000 ≤ k) (hk2 : k ≤ 1000000) : tarrylaw05_alive.f k = some true := by
  have hF := format_ok k hk hk2 8 (by decide) (by decide)
  have hG := fmt_good (n := 8) (by decide) (by decide)
  have hl := fmt_len (n := 8) (by decide) (by decide)
  have hG2 : Good (fmt 8) 1 0 0 [(⟨#[97]⟩ : ByteArray)] [] := ⟨hG.hr, hG.h8, hG.hT, hG.hb, hG.hrr, by rw [hl]; exact wts_a⟩
  have hA := append_tells k hk hk2 (fmt 8) [] 1 0 0 [] [] (⟨#[97]⟩ : ByteArray) (by omega) (by rw [List.length_nil]; omega) (by rw [List.length_nil]; decide)
  have hR : rightJ (fmt 8) [] 1 0 0 [] [] = true := hG.right
  rw [if_pos hR, List.nil_append, hl, if_pos (show wts 8 (0 : Int).toNat [(⟨#[97]⟩ : ByteArray)] = 0 from wts_a)] at hA
  have hC := commit_ok hG2 k hk hk2 (by decide)
  unfold tarrylaw05_alive.f
  refine (congrArg (fun o => Option.bind o _) hF).trans ?_
  rw [Option.bind_some]
  simp only
  rw [hA, Option.bind_some]
  simp only
  refine (congrArg (fun o => Option.bind o _) hC).trans ?_
  rw [Option.bind_some]
  simp only
  rw [if_pos trivial, if_pos trivial, if_pos trivial]
  rfl
/-! ### what the laws cut -/
def cutW (x : S55) : S55 := ⟨x.f0, cut66 x.f1⟩
def cutT (x : ByteArray) : ByteArray := x.extract 0 (mn (x.size : Int) 1002).toNat
theorem cut_is (a : ByteArray) (n : Nat) (m : Int) (hm : m = n) : 0 ≤ mn (a.size : Int) m ∧ mn (a.size : Int) m ≤ (a.size : Int) ∧ (a.extract 0 (mn (a.size : Int) m).toNat).size ≤ n := by
  subst hm
  have h : mn (a.size : Int) n = ((min a.size n : Nat) : Int) := by unfold mn; split <;> omega
  rw [h, Int.toNat_natCast, ext_size _ _ _ (by omega)]
  omega
theorem few_r5 (k : Nat) (l : List S55) (m : List ByteArray) : ∀ (xs out : List S55), out.length + xs.length < 1000 → tarrylaw05_disk.r5 k l m xs out = some (m, out ++ xs.map cutW)
  | [], out, _ => by simp [tarrylaw05_disk.r5]
  | x :: xs, out, h => by
    simp only [List.length_cons] at h
    obtain ⟨c1, c2, _⟩ := cut66_ok x.f1
    rw [tarrylaw05_disk.r5, if_pos c1, if_pos c2, if_pos (by simp; omega), few_r5 k l m xs _ (by simp; omega)]
    simp [cutW, cut66]
theorem few_r1 (k : Nat) (l0 : List ByteArray) (l1 : List S55) : ∀ (xs out : List ByteArray), out.length + xs.length < 1000 → tarrylaw05_disk.r1 k l0 l1 xs out = some (out ++ xs.map cut66, (l1.take 4).map cutW)
  | [], out, _ => by
    obtain ⟨h1, h2⟩ := mn_take l1 4 4 rfl
    rw [tarrylaw05_disk.r1, h1, Int.toNat_natCast, h2, if_pos (by omega), if_pos (by omega), few_r5 _ _ _ _ _ (by rw [List.length_take]; simp; omega)]
    simp
  | x :: xs, out, h => by
    simp only [List.length_cons] at h
    obtain ⟨c1, c2, _⟩ := cut66_ok x
    rw [tarrylaw05_disk.r1, if_pos c1, if_pos c2, if_pos (by simp; omega), few_r1 k l0 l1 xs _ (by simp; omega)]
    simp [cut66]
theorem disk_tells (k : Nat) (hk : 100 ≤ k) (ss : List ByteArray) (ws : List S55) : tarrylaw05_disk.f k ss ws = some ((ss.take 30).map cut66, (ws.take 4).map cutW) := by
  obtain ⟨h1, h2⟩ := mn_take ss 30 30 rfl
  obtain ⟨g1, g2⟩ := mn_take ws 4 4 rfl
  have hl : (ss.take 30).length ≤ 30 := by rw [List.length_take]; omega
  have hl2 : (ws.take 4).length ≤ 4 := by rw [List.length_take]; omega
  have := tarrylaw05_disk.r1_eq k ss ws
  rw [h1, Int.toNat_natCast, h2, g1, Int.toNat_natCast, g2] at this
  have e := this (by omega) (by omega) k 0 [] (by omega) (by omega)
  rw [show ((0 : Nat) : Int) = 0 from rfl, List.drop_zero] at e
  unfold tarrylaw05_disk.f
  rw [h1, if_pos (by omega), if_pos (by omega), e, few_r1 _ _ _ _ _ (by simp; omega)]
  rfl
theorem texts_r1 (k : Nat) (a : Int) (l0 : List ByteArray) : ∀ (xs out : List ByteArray), out.length + xs.length < 1000 → tarrylaw05_texts.r1 k a l0 xs out = some (out ++ xs.map cutT)
  | [], out, _ => by simp [tarrylaw05_texts.r1]
  | x :: xs, out, h => by
    simp only [List.length_cons] at h
    obtain ⟨c1, c2, _⟩ := cut_is x 1002 1002 rfl
    rw [tarrylaw05_texts.r1, if_pos c1, if_pos c2, if_pos (by simp; omega), texts_r1 k a l0 xs _ (by simp; omega)]
    simp [cutT]
theorem texts_tells (k : Nat) (hk : 100 ≤ k) (l : List ByteArray) (n : Nat) (hn : n ≤ 60) (q : Int) (hq : q = n) : tarrylaw05_texts.f k l q = some ((l.take n).map cutT) := by
  obtain ⟨h1, h2⟩ := mn_take l n q hq
  have hl : (l.take n).length ≤ 60 := by rw [List.length_take]; omega
  have := tarrylaw05_texts.r1_eq k q l
  rw [h1, Int.toNat_natCast, h2] at this
  have e := this (by omega) k 0 [] (by omega) (by omega)
  rw [show ((0 : Nat) : Int) = 0 from rfl, List.drop_zero] at e
  unfold tarrylaw05_texts.f
  rw [h1, if_pos (by omega), if_pos (by omega), e, texts_r1 _ _ _ _ _ (by simp; omega)]
  rfl
theorem few_tells (k : Nat) (hk : 100 ≤ k) (ss : List ByteArray) (ws : List S55) (x y z : Int) (g r : List ByteArray) : ∃ (ss' : List ByteArray) (ws' : List S55) (g' r' : List ByteArray), tarrylaw05_few.f k ss ws x y z g r = some (ss', ws', x, y, z, g', r') ∧ ss'.length ≤ 30 ∧ ws'.length ≤ 4 ∧ g'.length ≤ 18 ∧ r'.length ≤ 60 ∧ (∀ s ∈ g', s.size ≤ 1002) ∧ (∀ s ∈ r', s.size ≤ 1002) := by
  refine ⟨(ss.take 30).map cut66, (ws.take 4).map cutW, (g.take 18).map cutT, (r.take 60).map cutT, ?_, ?_, ?_, ?_, ?_, ?_, ?_⟩
  rotate_left 1
  · show ((ss.take 30).map cut66).length ≤ 30
    rw [List.length_map, List.length_take]; omega
  · show ((ws.take 4).map cutW).length ≤ 4
    rw [List.length_map, List.length_take]; omega
  · show ((g.take 18).map cutT).length ≤ 18
    rw [List.length_map, List.length_take]; omega
  · show ((r.take 60).map cutT).length ≤ 60
    rw [List.length_map, List.length_take]; omega
  · intro s hs
    obtain ⟨x, _, rfl⟩ := List.mem_map.1 hs
    exact (cut_is x 1002 1002 rfl).2.2
  · intro s hs
    obtain ⟨x, _, rfl⟩ := List.mem_map.1 hs
    exact (cut_is x 1002 1002 rfl).2.2
  · unfold tarrylaw05_few.f
    rw [disk_tells k hk, Option.bind_some]
    simp only
    rw [texts_tells k hk g 18 (by decide) 18 rfl, Option.bind_some, texts_tells k hk r 60 (by decide) 60 rfl, Option.bind_some]
end Go.Proofs.Ytipeglbeongfmaa.Pure
