/- PackRows: what a row's bytes are, and the row of any text, is the document's; no further condition. -/
import Derived.Test.YtacenfolbmdpoaaRPackRows
namespace Go.Proofs.Ytacenfolbmdpoaa.Pure
open Go Go.RowKit Go.Proofs.Ytacenfolbmdpoaa.PPackRows Go.Proofs.YtacenfolbmdpoaaV 
set_option linter.unusedSimpArgs false
set_option linter.unusedVariables false
theorem take_drop0 {α : Type} (l : List α) (i : Nat) : (l.take i).drop 0 = l.take i := rfl
theorem w64n {n : Int} (h1 : -9000000000000000000 ≤ n) (h2 : n ≤ 9000000000000000000) : wrap64 n = n := by unfold wrap64; omega
/-- A binary search's middle. -/
theorem mid_is {i j : Nat} (hi : i ≤ 1000000) (hj : j ≤ 1000000) : wrap64 ((IntKind.u64.wrap (wrap64 ((i : Int) + (j : Int)))).fdiv (2 ^ min (1 : Int).toNat IntKind.u64.bits)) = (((i + j) / 2 : Nat) : Int) := by
  have e1 : wrap64 ((i : Int) + (j : Int)) = ((i + j : Nat) : Int) := by unfold wrap64; omega
  have e2 : IntKind.u64.wrap ((i + j : Nat) : Int) = ((i + j : Nat) : Int) := by
    have h : IntKind.u64.wrap ((i + j : Nat) : Int) = ((i + j : Nat) : Int) % 18446744073709551616 := rfl
    rw [h]
    omega
  have e3 : (2 : Int) ^ min (1 : Int).toNat IntKind.u64.bits = 2 := by decide
  rw [e1, e2, e3, Int.fdiv_eq_ediv_of_nonneg _ (by decide)]
  unfold wrap64
  omega
/-- The things ahead of the first one that is not so. -/
theorem tw_len_le {α : Type} (p : α → Bool) (l : List α) : (l.takeWhile p).length ≤ l.length := by
  induction l with
  | nil => simp
  | cons x xs ih => rw [List.takeWhile_cons]; split <;> simp <;> omega
theorem tw_lt {α : Type} (p : α → Bool) : ∀ (l : List α) (i : Nat) (x : α), l[i]? = some x → i < (l.takeWhile p).length → p x = true
  | [], i, x, h, _ => by simp at h
  | y :: l, 0, x, h, hi => by
    simp only [List.getElem?_cons_zero, Option.some.injEq] at h
    subst h
    rw [List.takeWhile_cons] at hi
    by_cases hp : p y = true
    · exact hp
    · rw [if_neg hp] at hi; simp at hi
  | y :: l, i + 1, x, h, hi => by
    simp only [List.getElem?_cons_succ] at h
    rw [List.takeWhile_cons] at hi
    split at hi
    · exact tw_lt p l i x h (by simpa using hi)
    · simp at hi
theorem tw_at {α : Type} (p : α → Bool) : ∀ (l : List α) (x : α), l[(l.takeWhile p).length]? = some x → p x = false
  | [], x, h => by simp at h
  | y :: l, x, h => by
    rw [List.takeWhile_cons] at h
    by_cases hp : p y = true
    · rw [if_pos hp] at h
      simp only [List.length_cons, List.getElem?_cons_succ] at h
      exact tw_at p l x h
    · rw [if_neg hp] at h
      simp only [List.length_nil, List.getElem?_cons_zero, Option.some.injEq] at h
      subst h
      simpa using hp
/-- Where what is so stands ahead of what is not. -/
def Downs {α : Type} (p : α → Bool) (l : List α) : Prop := ∀ (i j : Nat) (x y : α), i < j → l[i]? = some x → l[j]? = some y → p y = true → p x = true
theorem tw_ge {α : Type} {p : α → Bool} {l : List α} (h : Downs p l) {i : Nat} {x : α} (hx : l[i]? = some x) (hi : (l.takeWhile p).length ≤ i) : p x = false := by
  have hl := (List.getElem?_eq_some_iff.1 hx).1
  obtain ⟨y, hn⟩ : ∃ y, l[(l.takeWhile p).length]? = some y := ⟨_, List.getElem?_eq_getElem (by omega)⟩
  have h0 := tw_at p l _ hn
  rcases Nat.lt_or_eq_of_le hi with h1 | h1
  · cases hp : p x with
    | false => rfl
    | true => rw [h _ _ _ _ h1 hn hx hp] at h0; cases h0
  · rw [h1, hx] at hn
    obtain rfl := Option.some.inj hn
    exact h0
theorem take_tw {α : Type} (p : α → Bool) (l : List α) : l.take (l.takeWhile p).length = l.takeWhile p := by
  induction l with
  | nil => rfl
  | cons x xs ih => rw [List.takeWhile_cons]; split <;> simp [ih]
theorem drop_tw {α : Type} (p : α → Bool) (l : List α) : l.drop (l.takeWhile p).length = l.dropWhile p := by
  induction l with
  | nil => rfl
  | cons x xs ih => rw [List.takeWhile_cons, List.dropWhile_cons]; split <;> simp [ih]
theorem pw_get {α : Type} {R : α → α → Prop} {l : List α} (h : l.Pairwise R) {i j : Nat} {x y : α} (hij : i < j) (hx : l[i]? = some x) (hy : l[j]? = some y) : R x y := by
  obtain ⟨h1, rfl⟩ := List.getElem?_eq_some_iff.1 hx
  obtain ⟨h2, rfl⟩ := List.getElem?_eq_some_iff.1 hy
  exact List.pairwise_iff_getElem.1 h i j h1 h2 hij
theorem pw_of_get {α : Type} {R : α → α → Prop} {l : List α} (h : ∀ (i j : Nat) (x y : α), i < j → l[i]? = some x → l[j]? = some y → R x y) : l.Pairwise R :=
  List.pairwise_iff_getElem.2 fun i j h1 h2 hij => h i j _ _ hij (List.getElem?_eq_getElem h1) (List.getElem?_eq_getElem h2)
theorem drop_cons_is {α : Type} {l : List α} {i : Nat} {x : α} {xs : List α} (h : l.drop i = x :: xs) : i < l.length ∧ l[i]? = some x ∧ l.drop (i + 1) = xs := by
  have h1 : i < l.length := by have := congrArg List.length h; simp at this; omega
  rw [List.drop_eq_getElem_cons h1] at h
  obtain ⟨h2, h3⟩ := List.cons.inj h
  exact ⟨h1, by rw [List.getElem?_eq_getElem h1, h2], h3⟩
theorem drop_nil_is {α : Type} {l : List α} {i : Nat} (h : l.drop i = []) : l.length ≤ i := by have := congrArg List.length h; simp at this; omega
theorem filter_split {α : Type} (p : α → Bool) (l : List α) : (l.filter p).length + (l.filter (fun x => !p x)).length = l.length := by
  induction l with
  | nil => rfl
  | cons x xs ih => by_cases h : p x = true <;> simp [List.filter_cons, h] <;> omega
theorem mem_tw_dw {α : Type} (p : α → Bool) (l : List α) (y : α) : (y ∈ l.takeWhile p ∨ y ∈ l.dropWhile p) ↔ y ∈ l := by
  rw [← List.mem_append, List.takeWhile_append_dropWhile]
theorem mem_tw {α : Type} {p : α → Bool} {l : List α} {y : α} (h : y ∈ l.takeWhile p) : p y = true := by
  obtain ⟨i, hi⟩ := List.getElem?_of_mem h
  have hlt := (List.getElem?_eq_some_iff.1 hi).1
  rw [← take_tw, List.getElem?_take, if_pos hlt] at hi
  exact tw_lt p l i y hi hlt
theorem mem_dw {α : Type} {p : α → Bool} {l : List α} (hd : Downs p l) {y : α} (h : y ∈ l.dropWhile p) : p y = false := by
  obtain ⟨i, hi⟩ := List.getElem?_of_mem h
  rw [← drop_tw, List.getElem?_drop] at hi
  exact tw_ge hd hi (by omega)
/-- Two rows that rise, of the same things, are the same row. -/
theorem eq_of_rise {α : Type} {R : α → α → Prop} (irr : ∀ a b, R a b → ¬ R b a) : ∀ (l l' : List α), l.Pairwise R → l'.Pairwise R → (∀ x, x ∈ l ↔ x ∈ l') → l = l'
  | [], [], _, _, _ => rfl
  | [], b :: l', _, _, h => by have := (h b).2 (by simp); cases this
  | a :: l, [], _, _, h => by have := (h a).1 (by simp); cases this
  | a :: l, b :: l', h1, h2, h => by
    rw [List.pairwise_cons] at h1 h2
    have hab : a = b := by
      rcases List.mem_cons.1 ((h a).1 (by simp)) with e | e
      · exact e
      rcases List.mem_cons.1 ((h b).2 (by simp)) with e2 | e2
      · exact e2.symm
      exact absurd (h1.1 b e2) (irr _ _ (h2.1 a e))
    subst hab
    have hna : ∀ x, R x x → False := fun x hx => irr x x hx hx
    rw [eq_of_rise irr l l' h1.2 h2.2 fun x => ⟨fun hx => ?_, fun hx => ?_⟩]
    · rcases List.mem_cons.1 ((h x).1 (by simp [hx])) with e | e
      · subst e; exact absurd (h1.1 _ hx) (hna _)
      · exact e
    · rcases List.mem_cons.1 ((h x).2 (by simp [hx])) with e | e
      · subst e; exact absurd (h2.1 _ hx) (hna _)
      · exact e
theorem filter_tw {α : Type} {p : α → Bool} : ∀ {l : List α}, Downs p l → l.filter p = l.takeWhile p
  | [], _ => rfl
  | x :: xs, h => by
    by_cases hx : p x = true
    · rw [List.filter_cons, if_pos hx, List.takeWhile_cons, if_pos hx, filter_tw (l := xs) fun i j a b hij ha hb hp => h (i + 1) (j + 1) a b (by omega) (by simpa using ha) (by simpa using hb) hp]
    · rw [List.takeWhile_cons, if_neg hx, List.filter_eq_nil_iff]
      intro y hy hp
      obtain ⟨j, hj⟩ := List.getElem?_of_mem hy
      cases j with
      | zero => simp at hj; subst hj; exact hx hp
      | succ j => exact hx (h 0 (j + 1) x y (by omega) rfl hj hp)
theorem tw_mono {α : Type} {p q : α → Bool} (h : ∀ x, p x = true → q x = true) (l : List α) : (l.takeWhile p).length ≤ (l.takeWhile q).length := by
  induction l with
  | nil => simp
  | cons x xs ih =>
    rw [List.takeWhile_cons, List.takeWhile_cons]
    by_cases hx : p x = true
    · rw [if_pos hx, if_pos (h x hx)]; simp; omega
    · rw [if_neg hx]; simp
theorem pw_of_adj {α : Type} {R : α → α → Prop} (tr : ∀ {a b c}, R a b → R b c → R a c) {l : List α} (h : ∀ (i : Nat) (x y : α), l[i]? = some x → l[i + 1]? = some y → R x y) : l.Pairwise R := by
  have hall : ∀ (d i : Nat) (x y : α), l[i]? = some x → l[i + 1 + d]? = some y → R x y := by
    intro d
    induction d with
    | zero => intro i x y hx hy; exact h i x y hx hy
    | succ d ih =>
      intro i x y hx hy
      have hlt := (List.getElem?_eq_some_iff.1 hy).1
      have hz : l[i + 1 + d]? = some l[i + 1 + d] := List.getElem?_eq_getElem (by omega)
      exact tr (ih i x _ hx hz) (h (i + 1 + d) _ y hz hy)
  exact pw_of_get fun i j x y hij hx hy => hall (j - i - 1) i x y hx (by rw [show i + 1 + (j - i - 1) = j by omega]; exact hy)
/-! ### texts as rows of numbers -/
def okB (l : List Int) : Prop := ∀ x ∈ l, 0 ≤ x ∧ x < 256
theorem okB_byI (s : ByteArray) : okB (byI s) := by
  intro x hx
  obtain ⟨b, _, rfl⟩ := List.mem_map.1 hx
  have := UInt8.toNat_lt b
  omega
theorem byI_inj {a b : ByteArray} (h : byI a = byI b) : a = b := by
  have h2 : a.data.toList = b.data.toList := by
    unfold byI at h
    have : ∀ (l m : List UInt8), l.map (fun b => (b.toNat : Int)) = m.map (fun b => (b.toNat : Int)) → l = m := by
      intro l
      induction l with
      | nil => intro m h; cases m with | nil => rfl | cons => simp at h
      | cons x xs ih =>
        intro m h
        cases m with
        | nil => simp at h
        | cons y ys =>
          simp only [List.map_cons, List.cons.injEq] at h
          rw [ih ys h.2, UInt8.toNat_inj.1 (by omega : x.toNat = y.toNat)]
    exact this _ _ h
  cases a with
  | mk a =>
    cases b with
    | mk b => simp only at h2; rw [Array.toList_inj.1 h2]
theorem byI_num {l : List Int} (h : okB l) : byI (strOfNums l) = l := by
  unfold byI strOfNums
  simp only [List.map_map]
  conv => rhs; rw [← List.map_id l]
  refine List.map_congr_left fun x hx => ?_
  have := h x hx
  simp only [Function.comp, id]
  rw [UInt8.toNat_ofNat']
  omega
theorem num_byI (s : ByteArray) : strOfNums (byI s) = s := byI_inj (byI_num (okB_byI s))
theorem byI_app (a b : ByteArray) : byI (a ++ b) = byI a ++ byI b := by
  unfold byI
  rw [ByteArray.data_append, Array.toList_append, List.map_append]
theorem byI_ext (s : ByteArray) (i j : Nat) : byI (s.extract i j) = ((byI s).take j).drop i := by
  unfold byI
  rw [ByteArray.data_extract, Array.toList_extract, ← List.map_take, ← List.map_drop]
  congr 1
  rw [List.extract_eq_take_drop, List.drop_take]
theorem byI_nil : byI (⟨#[]⟩ : ByteArray) = [] := rfl
theorem size_byI (s : ByteArray) : s.size = (byI s).length := (byI_len s).symm
theorem num_size {l : List Int} : (strOfNums l).size = l.length := by
  rw [size_byI]; unfold byI strOfNums; simp
theorem bt_get {s : ByteArray} {i : Nat} (h : i < s.size) : (byI s)[i]? = some (bt s i) := by
  unfold byI bt
  rw [List.getElem?_map, Array.getElem?_toList, Int.toNat_natCast, dif_pos h]
  have : s.data[i]? = some s.data[i] := Array.getElem?_eq_getElem h
  rw [this]
  rfl
theorem bt_of {s : ByteArray} {i : Nat} {x : Int} (h : (byI s)[i]? = some x) : bt s i = x := by
  have := (List.getElem?_eq_some_iff.1 h).1
  rw [bt_get (by rw [size_byI]; exact this)] at h
  exact Option.some.inj h
theorem app_size (a b : ByteArray) : (a ++ b).size = a.size + b.size := ByteArray.size_append
theorem ext_size (s : ByteArray) (i j : Nat) (h : j ≤ s.size) : (s.extract i j).size = j - i := by rw [ByteArray.size_extract]; omega
theorem ext_left (a b : ByteArray) : (a ++ b).extract 0 a.size = a := by
  apply byI_inj
  rw [byI_ext, byI_app, List.drop_zero, size_byI, List.take_left]
theorem ext_right (a b : ByteArray) : (a ++ b).extract a.size (a ++ b).size = b := by
  apply byI_inj
  rw [byI_ext, byI_app, app_size, size_byI a, size_byI b, ← List.length_append, List.take_length, List.drop_left]
theorem ext_split (s : ByteArray) (i : Nat) (h : i ≤ s.size) : s.extract 0 i ++ s.extract i s.size = s := by
  apply byI_inj
  rw [byI_app, byI_ext, byI_ext, List.drop_zero, size_byI s, List.take_length, List.take_append_drop]
theorem app_assoc (a b c : ByteArray) : a ++ b ++ c = a ++ (b ++ c) := by
  apply byI_inj
  rw [byI_app, byI_app, byI_app, byI_app, List.append_assoc]
theorem app_inj {a b c d : ByteArray} (h : a ++ b = c ++ d) (hs : a.size = c.size) : a = c ∧ b = d := by
  have h2 := congrArg byI h
  rw [byI_app, byI_app] at h2
  obtain ⟨h3, h4⟩ := List.append_inj h2 (by rw [← size_byI, ← size_byI, hs])
  exact ⟨byI_inj h3, byI_inj h4⟩
theorem app_nil (a : ByteArray) : a ++ (⟨#[]⟩ : ByteArray) = a := by
  apply byI_inj
  rw [byI_app, byI_nil, List.append_nil]
theorem nil_app (a : ByteArray) : (⟨#[]⟩ : ByteArray) ++ a = a := by
  apply byI_inj
  rw [byI_app, byI_nil, List.nil_append]
theorem size_zero {a : ByteArray} (h : a.size = 0) : a = ⟨#[]⟩ := by
  apply byI_inj
  rw [size_byI] at h
  rw [List.eq_nil_of_length_eq_zero h, byI_nil]
theorem ba_toList_loop (a : ByteArray) : ∀ (d i : Nat) (r : List UInt8), a.size - i = d → ByteArray.toList.loop a i r = r.reverse ++ a.data.toList.drop i := by
  intro d
  induction d with
  | zero =>
    intro i r h
    unfold ByteArray.toList.loop
    have h1 : ¬ i < a.size := by omega
    rw [if_neg h1, List.drop_eq_nil_of_le (by show a.data.toList.length ≤ i; rw [Array.length_toList]; exact Nat.le_of_not_lt h1), List.append_nil]
  | succ d ih =>
    intro i r h
    unfold ByteArray.toList.loop
    have h1 : i < a.size := by omega
    have h2 : i < a.data.toList.length := by rw [Array.length_toList]; exact h1
    rw [if_pos h1, ih (i + 1) _ (by omega), List.reverse_cons, List.append_assoc, List.drop_eq_getElem_cons h2]
    have h3 : a.get! i = a.data.toList[i] := by
      show a.data[i]! = _
      rw [getElem!_pos a.data i h1]
      rfl
    rw [h3]
    rfl
theorem ba_toList (a : ByteArray) : a.toList = a.data.toList := by
  unfold ByteArray.toList
  rw [ba_toList_loop a a.size 0 [] (by omega)]
  rfl
theorem beq_is (a b : ByteArray) : (a == b) = decide (a = b) := by
  rw [beq_toListBytes, ba_toList, ba_toList, Bool.eq_iff_iff, beq_iff_eq, decide_eq_true_eq]
  refine ⟨fun h => ?_, fun h => by rw [h]⟩
  cases a with
  | mk a =>
    cases b with
    | mk b => simpa using h
theorem bt_range (s : ByteArray) (i : Int) : 0 ≤ bt s i ∧ bt s i < 256 := by
  unfold bt
  split
  · rename_i h
    have := UInt8.toNat_lt (s[i.toNat]'h)
    omega
  · omega
theorem wf64 {a : Int} (h : (Lit.int .i64 a).wf = true) : -9223372036854775808 ≤ a ∧ a ≤ 9223372036854775807 := by
  simpa [Lit.wf, IntKind.min, IntKind.max, IntKind.signed, IntKind.bits] using h
theorem wrap64_id {a : Int} (h : -9223372036854775808 ≤ a) (h' : a ≤ 9223372036854775807) : wrap64 a = a := by
  unfold wrap64
  omega
theorem may_tells (a : Int) : pack_may.f a = some (decide (-1152921504606846976 ≤ a ∧ a ≤ 1152921504606846976)) := by
  unfold pack_may.f
  split <;> simp <;> omega
def digs : Nat → Int → List Int
  | 0, x => [x]
  | n + 1, x => if x ≥ 128 then (x % 128 + 128) :: digs n (x / 128) else [x]

theorem w8 {n : Int} (h : 0 ≤ n) (h2 : n < 256) : IntKind.u8.wrap n = n := by rw [IntKind.wrap_u8]; omega
theorem number_l1 (kk n : Nat) : ∀ (k : Nat) (x : Int) (acc : List Int), 0 ≤ x → x < 128 * 128 ^ n → x ≤ 9223372036854775807 → acc.length + n ≤ 100 →
    pack_Number.l1 kk (k + n + 1) x acc = some (strOfNums (acc ++ digs n x), 0) := by
  induction n with
  | zero =>
    intro k x acc h0 h1 h2 h3
    have h1' : x < 128 := by simpa using h1
    rw [pack_Number.l1, if_neg (by omega), if_pos (by simp; omega), w8 h0 (by omega)]
    rfl
  | succ n ih =>
    intro k x acc h0 h1 h2 h3
    rw [show k + (n + 1) + 1 = (k + n + 1) + 1 by omega, pack_Number.l1]
    by_cases h : x ≥ 128
    · have t1 : Int.tmod x 128 = x % 128 := Int.tmod_eq_emod_of_nonneg h0
      have t2 : Int.tdiv x 128 = x / 128 := Int.tdiv_eq_ediv_of_nonneg h0
      have t3 : IntKind.i64.wrap (x / 128) = x / 128 := (i64w _).trans (wrap64_id (by omega) (by omega))
      have t4 : IntKind.u8.wrap (wrap64 (x % 128 + 128)) = x % 128 + 128 := by rw [wrap64_id (by omega) (by omega), w8 (by omega) (by omega)]
      have hp : (128 : Int) ^ (n + 1) = 128 ^ n * 128 := Int.pow_succ ..
      have hn := ih k (x / 128) (acc ++ [x % 128 + 128]) (by omega) (by omega) (by omega) (by simp; omega)
      rw [if_pos h, if_pos (by simp; omega), t1, t2, t3, t4, hn, digs, if_pos h, List.append_assoc]
      rfl
    · rw [if_neg h, if_pos (by simp; omega), digs, if_neg h, w8 h0 (by omega)]
theorem number_l3 (kk n : Nat) : ∀ (k : Nat) (x : Int) (acc : List Int), 0 ≤ x → x < 128 * 128 ^ n → x ≤ 9223372036854775807 → acc.length + n ≤ 100 →
    pack_Number.l3 kk (k + n + 1) x acc = some (strOfNums (acc ++ digs n x), 0) := by
  induction n with
  | zero =>
    intro k x acc h0 h1 h2 h3
    have h1' : x < 128 := by simpa using h1
    rw [pack_Number.l3, if_neg (by omega), if_pos (by simp; omega), w8 h0 (by omega)]
    rfl
  | succ n ih =>
    intro k x acc h0 h1 h2 h3
    rw [show k + (n + 1) + 1 = (k + n + 1) + 1 by omega, pack_Number.l3]
    by_cases h : x ≥ 128
    · have t1 : Int.tmod x 128 = x % 128 := Int.tmod_eq_emod_of_nonneg h0
      have t2 : Int.tdiv x 128 = x / 128 := Int.tdiv_eq_ediv_of_nonneg h0
      have t3 : IntKind.i64.wrap (x / 128) = x / 128 := (i64w _).trans (wrap64_id (by omega) (by omega))
      have t4 : IntKind.u8.wrap (wrap64 (x % 128 + 128)) = x % 128 + 128 := by rw [wrap64_id (by omega) (by omega), w8 (by omega) (by omega)]
      have hp : (128 : Int) ^ (n + 1) = 128 ^ n * 128 := Int.pow_succ ..
      have hn := ih k (x / 128) (acc ++ [x % 128 + 128]) (by omega) (by omega) (by omega) (by simp; omega)
      rw [if_pos h, if_pos (by simp; omega), t1, t2, t3, t4, hn, digs, if_pos h, List.append_assoc]
      rfl
    · rw [if_neg h, if_pos (by simp; omega), digs, if_neg h, w8 h0 (by omega)]
def zig (a : Int) : Int := if a < 0 then -2 * a - 1 else 2 * a

theorem number_tells (k : Nat) (hk : 11 ≤ k) (a : Int) : pack_Number.f k a =
    some (if -1152921504606846976 ≤ a ∧ a ≤ 1152921504606846976 then (strOfNums (digs 8 (zig a)), 0) else ((⟨#[]⟩ : ByteArray), 1)) := by
  obtain ⟨k, rfl⟩ : ∃ q, k = q + 11 := ⟨k - 11, by omega⟩
  simp only [pack_Number.f, may_tells, Option.bind_some, decide_eq_true_eq]
  by_cases h : -1152921504606846976 ≤ a ∧ a ≤ 1152921504606846976
  · rw [if_pos h, if_pos h]
    have hz : 0 ≤ zig a ∧ zig a ≤ 2305843009213693952 := by unfold zig; split <;> omega
    by_cases h0 : a < 0
    · have e : wrap64 (wrap64 (-2 * a) - 1) = zig a := by rw [wrap64_id (a := -2 * a) (by omega) (by omega), wrap64_id (by omega) (by omega)]; unfold zig; rw [if_pos h0]
      have hl := number_l1 (k + 11) 8 (k + 2) (zig a) [] hz.1 (by omega) (by omega) (by simp)
      rw [if_pos h0, e]
      exact hl
    · have e : wrap64 (2 * a) = zig a := by rw [wrap64_id (by omega) (by omega)]; unfold zig; rw [if_neg h0]
      have hl := number_l3 (k + 11) 8 (k + 2) (zig a) [] hz.1 (by omega) (by omega) (by simp)
      rw [if_neg h0, e]
      exact hl
  · rw [if_neg h, if_neg h]
def rdv (s : ByteArray) : Nat → Int
  | 0 => 0
  | i + 1 => rdv s i + bt s i % 128 * 128 ^ i
def zag (x : Int) : Int := if x % 2 = 1 then -(x / 2) - 1 else x / 2
def rdFin (s : ByteArray) (i : Nat) : Int × ByteArray × Int :=
  if (bt s i = 0 ∧ 0 < i) ∨ ¬ (-1152921504606846976 ≤ zag (rdv s (i + 1)) ∧ zag (rdv s (i + 1)) ≤ 1152921504606846976) then (0, ⟨#[]⟩, 5) else (zag (rdv s (i + 1)), s.extract (i + 1) s.size, 0)
def rdGo (s : ByteArray) : Nat → Nat → Int × ByteArray × Int
  | 0, _ => if s.size ≥ 9 then (0, ⟨#[]⟩, 3) else (0, ⟨#[]⟩, 4)
  | f + 1, i => if i < s.size then (if bt s i ≥ 128 then rdGo s f (i + 1) else rdFin s i) else (if s.size ≥ 9 then (0, ⟨#[]⟩, 3) else (0, ⟨#[]⟩, 4))

theorem rdv_range (s : ByteArray) : ∀ i, 0 ≤ rdv s i ∧ rdv s i < 128 ^ i
  | 0 => by simp [rdv]
  | i + 1 => by
    have h := rdv_range s i
    have hp : (128 : Int) ^ (i + 1) = 128 * 128 ^ i := by rw [Int.pow_succ, Int.mul_comm]
    have hb := bt_range s i
    have h1 : 0 ≤ bt s i % 128 * 128 ^ i := Int.mul_nonneg (by omega) (by omega)
    have h2 : bt s i % 128 * 128 ^ i ≤ 127 * 128 ^ i := Int.mul_le_mul_of_nonneg_right (by omega) (by omega)
    rw [rdv, hp]
    omega
theorem pow128_le {i j : Nat} (h : i ≤ j) : (128 : Int) ^ i ≤ 128 ^ j := by
  obtain ⟨d, rfl⟩ := Nat.le.dest h
  induction d with
  | zero => exact Int.le_refl _
  | succ d ih =>
    have := ih (by omega)
    have hp : (128 : Int) ^ (i + (d + 1)) = 128 ^ (i + d) * 128 := Int.pow_succ ..
    have h0 : (0 : Int) < 128 ^ (i + d) := Int.pow_pos (by decide)
    omega
theorem rdv_small (s : ByteArray) (i : Nat) (h : i ≤ 9) : 0 ≤ rdv s i ∧ rdv s i ≤ 9223372036854775807 := by
  have h1 := rdv_range s i
  have h2 := pow128_le h
  have : (128 : Int) ^ 9 = 9223372036854775808 := by decide +kernel
  omega

theorem or_add (x c : Int) (i : Nat) (hi : i ≤ 8) (hx : 0 ≤ x) (hx2 : x < 128 ^ i) (hc : 0 ≤ c) (hc2 : c < 128) :
    Go.bits .or .i64 x (IntKind.i64.wrap (c * 2 ^ min (wrap64 (7 * (i : Int))).toNat IntKind.i64.bits)) = x + c * 128 ^ i := by
  have e1 : wrap64 (7 * (i : Int)) = 7 * i := wrap64_id (by omega) (by omega)
  have e2 : (7 * (i : Int)).toNat = 7 * i := by omega
  have e3 : (2 : Int) ^ (7 * i) = 128 ^ i := by rw [Int.pow_mul]; rfl
  have hp := pow128_le hi
  have h8 : (128 : Int) ^ 8 = 72057594037927936 := by decide +kernel
  have h0 : (0 : Int) < 128 ^ i := Int.pow_pos (by decide)
  have hcc : c * 128 ^ i ≤ 127 * 128 ^ i := Int.mul_le_mul_of_nonneg_right (by omega) (by omega)
  have hcn : 0 ≤ c * 128 ^ i := Int.mul_nonneg hc (by omega)
  have e4 : IntKind.i64.wrap (c * 2 ^ min (wrap64 (7 * (i : Int))).toNat IntKind.i64.bits) = c * 128 ^ i := by
    rw [e1, e2, show min (7 * i) IntKind.i64.bits = 7 * i from Nat.min_eq_left (by show 7 * i ≤ 64; omega), e3, IntKind.wrap_i64]
    omega
  rw [e4]
  obtain ⟨a, rfl⟩ := Int.eq_ofNat_of_zero_le hx
  obtain ⟨d, rfl⟩ := Int.eq_ofNat_of_zero_le hc
  have ha : a < 128 ^ i := by exact_mod_cast hx2
  have hq : ((d : Int) * 128 ^ i) = ((2 ^ (7 * i) * d : Nat) : Int) := by
    rw [Int.natCast_mul, Int.mul_comm]
    congr 1
    rw [← e3]
    exact (Int.natCast_pow 2 (7 * i)).symm
  have h128 : (128 : Nat) ^ i = 2 ^ (7 * i) := by rw [Nat.pow_mul]
  rw [hq]
  have ha2 : a < 2 ^ 63 := by omega
  have hd2 : 2 ^ (7 * i) * d < 2 ^ 63 := by omega
  rw [(bits_nat .i64 63 (by decide) (by intro n h h'; rw [IntKind.wrap_i64]; omega) a _ ha2 hd2).2, Nat.or_comm, ← Nat.two_pow_add_eq_or_of_lt (by rw [← h128]; exact ha) d]
  omega

theorem fin_odd (x : Int) (hx : 0 ≤ x) (hx2 : x ≤ 9223372036854775807) (h : Int.tmod x 2 = 1) : wrap64 ((wrap64 (0 - (IntKind.i64.wrap (Int.tdiv x 2)))) - 1) = zag x := by
  rw [Int.tmod_eq_emod_of_nonneg hx] at h
  rw [i64w, Int.tdiv_eq_ediv_of_nonneg hx, wrap64_id (a := x / 2) (by omega) (by omega), wrap64_id (a := 0 - (x / 2)) (by omega) (by omega), wrap64_id (a := 0 - (x / 2) - 1) (by omega) (by omega)]
  unfold zag
  rw [if_pos h]
  omega
theorem fin_even (x : Int) (hx : 0 ≤ x) (hx2 : x ≤ 9223372036854775807) (h : ¬ Int.tmod x 2 = 1) : IntKind.i64.wrap (Int.tdiv x 2) = zag x := by
  rw [Int.tmod_eq_emod_of_nonneg hx] at h
  rw [i64w, Int.tdiv_eq_ediv_of_nonneg hx, wrap64_id (a := x / 2) (by omega) (by omega)]
  unfold zag
  rw [if_neg h]
theorem read_j5 (k : Nat) (s : ByteArray) (i : Nat) (n : Int) (q : Bool) (hi : i < s.size) (h9 : i ≤ 8) : pack_ReadNumber.j5 k s (i : Int) n q
    = some (if (bt s i = 0 ∧ 0 < i) ∨ ¬ (-1152921504606846976 ≤ n ∧ n ≤ 1152921504606846976) then (0, ⟨#[]⟩, 5) else (n, s.extract (i + 1) s.size, 0)) := by
  have hb := bt_range s i
  have e : wrap64 ((i : Int) + 1) = ((i + 1 : Nat) : Int) := by rw [wrap64_id (by omega) (by omega)]; rfl
  have w1 : wrap64 (bt s i) = bt s i := wrap64_id (by omega) (by omega)
  unfold pack_ReadNumber.j5
  simp only [may_tells, Option.bind_some, e, w1, Int.toNat_natCast, decide_eq_true_eq]
  have p1 : (0 : Int) ≤ ((i + 1 : Nat) : Int) := by omega
  have p2 : ((i + 1 : Nat) : Int) ≤ (s.size : Int) := by omega
  simp only [if_pos p1, if_pos p2]
  by_cases h1 : bt s i = 0 <;> by_cases h2 : 0 < i <;> by_cases h3 : -1152921504606846976 ≤ n ∧ n ≤ 1152921504606846976 <;> simp [h1, h2, h3]
theorem read_l3 (kk : Nat) (s : ByteArray) (hs : s.size ≤ 140737488351232) (f : Nat) : ∀ (k i : Nat), i + f = 9 →
    pack_ReadNumber.l3 kk s (k + f + 1) (rdv s i) i = some (rdGo s f i) := by
  have stop : ∀ (i : Nat), ((i : Int) < mn (s.size : Int) 9 ↔ i < s.size ∧ i < 9) := fun i => by unfold mn; split <;> omega
  have hfin : ∀ m : Nat, (if (s.size : Int) ≥ 9 then (some ((0 : Int), (⟨#[]⟩ : ByteArray), (3 : Int))) else (some (0, (⟨#[]⟩ : ByteArray), 4))) = some (if s.size ≥ 9 then (0, ⟨#[]⟩, 3) else (0, ⟨#[]⟩, 4)) := fun m => by
    by_cases h : s.size ≥ 9
    · rw [if_pos h, if_pos (by omega)]
    · rw [if_neg h, if_neg (by omega)]
  induction f with
  | zero =>
    intro k i hi
    rw [pack_ReadNumber.l3, if_neg (by rw [stop]; omega), rdGo]
    exact hfin 0
  | succ f ih =>
    intro k i hi
    rw [show k + (f + 1) + 1 = (k + f + 1) + 1 by omega, pack_ReadNumber.l3, rdGo]
    by_cases h : i < s.size
    · have hm : (i : Int) < mn (s.size : Int) 9 := (stop i).2 ⟨h, by omega⟩
      have h0 : (0 : Int) ≤ (i : Int) := by omega
      have h1 : (i : Int) < (s.size : Int) := by omega
      have hb := bt_range s i
      have hr := rdv_range s i
      have hv := rdv_small s (i + 1) (by omega)
      have hf := fun n q => read_j5 kk s i n q h (by omega)
      have ho2 := or_add (rdv s i) (bt s i % 128) i (by omega) hr.1 hr.2 (by omega) (by omega)
      have w1 : wrap64 (bt s i) = bt s i := wrap64_id (by clear ho2 hf; omega) (by clear ho2 hf; omega)
      have w2 : Int.tmod (bt s i) 128 = bt s i % 128 := Int.tmod_eq_emod_of_nonneg hb.1
      have w3 : (0 : Int) ≤ wrap64 (7 * (i : Int)) := (wrap64_id (a := 7 * (i : Int)) (by clear w1 ho2 hf; omega) (by clear w1 ho2 hf; omega)).symm ▸ Int.mul_nonneg (by decide) h0
      have w4 : wrap64 ((i : Int) + 1) = ((i + 1 : Nat) : Int) := (wrap64_id (by clear w1 w3 ho2 hf; omega) (by clear w1 w3 ho2 hf; omega)).trans (by rfl)
      have hstep : rdv s i + bt s i % 128 * 128 ^ i = rdv s (i + 1) := rfl
      rw [if_pos h]
      refine (if_pos hm).trans ((if_pos h0).trans ((if_pos h1).trans ((if_pos w3).trans ?_)))
      simp only [w1, w2]
      rw [ho2, hstep]
      by_cases hc : bt s i ≥ 128
      · rw [if_pos hc, if_pos hc, w4]
        exact ih k (i + 1) (by clear w1 w3 w4 ho2 hf; omega)
      · rw [if_neg hc, if_neg hc]
        unfold rdFin
        by_cases ho : Int.tmod (rdv s (i + 1)) 2 = 1
        · refine (if_pos ho).trans ?_
          rw [fin_odd _ hv.1 hv.2 ho]
          exact hf _ _
        · refine (if_neg ho).trans ?_
          rw [fin_even _ hv.1 hv.2 ho]
          exact hf _ _
    · have hm : ¬ ((i : Int) < mn (s.size : Int) 9) := by rw [stop]; omega
      rw [if_neg h]
      refine (if_neg hm).trans ?_
      exact hfin 0
theorem read_tells (k : Nat) (hk : 10 ≤ k) (s : ByteArray) (hs : s.size ≤ 140737488351232) : pack_ReadNumber.f k s = some (rdGo s 9 0) := by
  obtain ⟨k, rfl⟩ : ∃ q, k = q + 10 := ⟨k - 10, by omega⟩
  exact read_l3 (k + 10) s hs 9 k 0 rfl
theorem ref_may_tells (a : Int) : tarryref01_May.f a = some (decide (-1152921504606846976 ≤ a ∧ a ≤ 1152921504606846976)) := by
  unfold tarryref01_May.f
  split <;> simp <;> omega
theorem ref_number_l1 (kk n : Nat) : ∀ (k : Nat) (x : Int) (acc : List Int), 0 ≤ x → x < 128 * 128 ^ n → x ≤ 9223372036854775807 → acc.length + n ≤ 100 →
    tarryref01_Number.l1 kk (k + n + 1) x acc = some (strOfNums (acc ++ digs n x)) := by
  induction n with
  | zero =>
    intro k x acc h0 h1 h2 h3
    have h1' : x < 128 := by simpa using h1
    rw [tarryref01_Number.l1, if_neg (by omega), if_pos (by simp; omega), w8 h0 (by omega)]
    rfl
  | succ n ih =>
    intro k x acc h0 h1 h2 h3
    rw [show k + (n + 1) + 1 = (k + n + 1) + 1 by omega, tarryref01_Number.l1]
    by_cases h : x ≥ 128
    · have t1 : Int.tmod x 128 = x % 128 := Int.tmod_eq_emod_of_nonneg h0
      have t2 : Int.tdiv x 128 = x / 128 := Int.tdiv_eq_ediv_of_nonneg h0
      have t3 : IntKind.i64.wrap (x / 128) = x / 128 := (i64w _).trans (wrap64_id (by omega) (by omega))
      have t4 : IntKind.u8.wrap (wrap64 (128 + x % 128)) = x % 128 + 128 := by rw [wrap64_id (by clear t3; omega) (by clear t3; omega), w8 (by clear t3; omega) (by clear t3; omega)]; clear t3; omega
      have hp : (128 : Int) ^ (n + 1) = 128 ^ n * 128 := Int.pow_succ ..
      have hn := ih k (x / 128) (acc ++ [x % 128 + 128]) (by clear t3 t4; omega) (by clear t3 t4; omega) (by clear t3 t4; omega) (by clear t3 t4; simp; omega)
      have hx : x > 127 := by clear t3 t4; omega
      rw [if_pos hx, if_pos (by clear t3 t4; simp; omega), t1, t2, t3, t4, hn, digs, if_pos h, List.append_assoc]
      rfl
    · rw [if_neg (by omega), if_pos (by simp; omega), digs, if_neg h, w8 h0 (by omega)]
theorem ref_number_l3 (kk n : Nat) : ∀ (k : Nat) (x : Int) (acc : List Int), 0 ≤ x → x < 128 * 128 ^ n → x ≤ 9223372036854775807 → acc.length + n ≤ 100 →
    tarryref01_Number.l3 kk (k + n + 1) x acc = some (strOfNums (acc ++ digs n x)) := by
  induction n with
  | zero =>
    intro k x acc h0 h1 h2 h3
    have h1' : x < 128 := by simpa using h1
    rw [tarryref01_Number.l3, if_neg (by omega), if_pos (by simp; omega), w8 h0 (by omega)]
    rfl
  | succ n ih =>
    intro k x acc h0 h1 h2 h3
    rw [show k + (n + 1) + 1 = (k + n + 1) + 1 by omega, tarryref01_Number.l3]
    by_cases h : x ≥ 128
    · have t1 : Int.tmod x 128 = x % 128 := Int.tmod_eq_emod_of_nonneg h0
      have t2 : Int.tdiv x 128 = x / 128 := Int.tdiv_eq_ediv_of_nonneg h0
      have t3 : IntKind.i64.wrap (x / 128) = x / 128 := (i64w _).trans (wrap64_id (by omega) (by omega))
      have t4 : IntKind.u8.wrap (wrap64 (128 + x % 128)) = x % 128 + 128 := by rw [wrap64_id (by clear t3; omega) (by clear t3; omega), w8 (by clear t3; omega) (by clear t3; omega)]; clear t3; omega
      have hp : (128 : Int) ^ (n + 1) = 128 ^ n * 128 := Int.pow_succ ..
      have hn := ih k (x / 128) (acc ++ [x % 128 + 128]) (by clear t3 t4; omega) (by clear t3 t4; omega) (by clear t3 t4; omega) (by clear t3 t4; simp; omega)
      have hx : x > 127 := by clear t3 t4; omega
      rw [if_pos hx, if_pos (by clear t3 t4; simp; omega), t1, t2, t3, t4, hn, digs, if_pos h, List.append_assoc]
      rfl
    · rw [if_neg (by omega), if_pos (by simp; omega), digs, if_neg h, w8 h0 (by omega)]
theorem ref_number_tells (k : Nat) (hk : 11 ≤ k) (a : Int) (h : -1152921504606846976 ≤ a ∧ a ≤ 1152921504606846976) : tarryref01_Number.f k a = some (strOfNums (digs 8 (zig a))) := by
  obtain ⟨k, rfl⟩ : ∃ q, k = q + 11 := ⟨k - 11, by omega⟩
  have hz : 0 ≤ zig a ∧ zig a ≤ 2305843009213693952 := by unfold zig; split <;> omega
  unfold tarryref01_Number.f
  by_cases h0 : a ≥ 0
  · have e : wrap64 (2 * a) = zig a := by rw [wrap64_id (by omega) (by omega)]; unfold zig; rw [if_neg (by omega)]
    rw [if_pos h0, e]
    exact ref_number_l1 (k + 11) 8 (k + 2) (zig a) [] hz.1 (by clear e; omega) (by clear e; omega) (by simp)
  · have e1 : wrap64 (0 - a) = 0 - a := wrap64_id (by omega) (by omega)
    have e2 : wrap64 (2 * (0 - a)) = 2 * (0 - a) := wrap64_id (by clear e1; omega) (by clear e1; omega)
    have e3 : wrap64 (2 * (0 - a) - 1) = zig a := by clear e1 e2; rw [wrap64_id (by omega) (by omega)]; unfold zig; rw [if_pos (by omega)]; omega
    rw [if_neg h0, e1, e2, e3]
    exact ref_number_l3 (k + 11) 8 (k + 2) (zig a) [] hz.1 (by clear e1 e2 e3; omega) (by clear e1 e2 e3; omega) (by simp)
theorem ref_j215 (k : Nat) (s : ByteArray) (i : Nat) (n : Int) (hi : i < s.size) (h9 : i ≤ 8) : tarryref01_ReadNumber.j215 k s (i : Int) n
    = some (if (bt s i = 0 ∧ 0 < i) ∨ ¬ (-1152921504606846976 ≤ n ∧ n ≤ 1152921504606846976) then (0, ⟨#[]⟩, 5) else (n, s.extract (i + 1) s.size, 0)) := by
  have h0 : (0 : Int) ≤ (i : Int) := by omega
  have h1 : (i : Int) < (s.size : Int) := by omega
  have e : wrap64 ((i : Int) + 1) = ((i + 1 : Nat) : Int) := by rw [wrap64_id (by omega) (by omega)]; rfl
  unfold tarryref01_ReadNumber.j215
  refine (if_pos h0).trans ((if_pos h1).trans ?_)
  simp only [ref_may_tells, Option.bind_some, e, Int.toNat_natCast, decide_eq_true_eq]
  have p1 : (0 : Int) ≤ ((i + 1 : Nat) : Int) := by omega
  have p2 : ((i + 1 : Nat) : Int) ≤ (s.size : Int) := by omega
  simp only [if_pos p1, if_pos p2]
  by_cases h1 : bt s i = 0 <;> by_cases h2 : 0 < i <;> by_cases h3 : -1152921504606846976 ≤ n ∧ n ≤ 1152921504606846976 <;> simp [h1, h2, h3]
theorem ref_l214 (kk : Nat) (s : ByteArray) (last : Nat) (hl : last < s.size) (h9 : last ≤ 8) (m : Nat) : ∀ (k : Nat) (y : Int), m ≤ last + 1 → 0 ≤ y → y * 128 ^ m + rdv s m = rdv s (last + 1) →
    tarryref01_ReadNumber.l214 kk s last (k + m + 1) y ((m : Int) - 1) = some (rdFin s last) := by
  induction m with
  | zero =>
    intro k y hm hy he
    have e : y = rdv s (last + 1) := by simpa [rdv] using he
    have hv := rdv_small s (last + 1) (by omega)
    have hneg : ¬ (((0 : Nat) : Int) - 1 ≥ 0) := by omega
    rw [tarryref01_ReadNumber.l214]
    refine (if_neg hneg).trans ?_
    rw [e]
    unfold tarryref01_ReadNumber.j213 rdFin
    by_cases ho : Int.tmod (rdv s (last + 1)) 2 = 1
    · refine (if_pos ho).trans ?_
      rw [fin_odd _ hv.1 hv.2 ho]
      exact ref_j215 kk s last _ hl h9
    · refine (if_neg ho).trans ?_
      rw [fin_even _ hv.1 hv.2 ho]
      exact ref_j215 kk s last _ hl h9
  | succ m ih =>
    intro k y hm hy he
    have hv := rdv_small s (last + 1) (by omega)
    have hb := bt_range s m
    have hr := rdv_range s m
    have hp : (128 : Int) ^ (m + 1) = 128 * 128 ^ m := by rw [Int.pow_succ, Int.mul_comm]
    have h0 : (1 : Int) ≤ 128 ^ m := Int.pow_pos (by decide)
    have hrs : rdv s (m + 1) = rdv s m + bt s m % 128 * 128 ^ m := rfl
    have he2 : (128 * y + bt s m % 128) * 128 ^ m + rdv s m = rdv s (last + 1) := by
      rw [← he, hp, hrs, Int.add_mul]
      have : 128 * y * 128 ^ m = y * (128 * 128 ^ m) := by rw [Int.mul_comm 128 y, Int.mul_assoc]
      omega
    have hz : 128 * y + bt s m % 128 ≤ (128 * y + bt s m % 128) * 128 ^ m := by
      have := Int.mul_le_mul_of_nonneg_left h0 (show 0 ≤ 128 * y + bt s m % 128 by omega)
      omega
    have hi : ((m + 1 : Nat) : Int) - 1 = (m : Int) := by omega
    have c1 : (m : Int) ≥ 0 := by omega
    have c2 : 0 ≤ (m : Int) := by omega
    have c3 : (m : Int) < (s.size : Int) := by omega
    have w1 : Int.tmod (bt s m) 128 = bt s m % 128 := Int.tmod_eq_emod_of_nonneg hb.1
    have b1 : -9223372036854775808 ≤ 128 * y ∧ 128 * y ≤ 9223372036854775807 := by omega
    have b2 : -9223372036854775808 ≤ bt s m % 128 ∧ bt s m % 128 ≤ 9223372036854775807 := by omega
    have b3 : -9223372036854775808 ≤ 128 * y + bt s m % 128 ∧ 128 * y + bt s m % 128 ≤ 9223372036854775807 := by omega
    have b4 : -9223372036854775808 ≤ (m : Int) - 1 ∧ (m : Int) - 1 ≤ 9223372036854775807 := by omega
    have w2 := wrap64_id b1.1 b1.2
    have w3 := wrap64_id b2.1 b2.2
    have w4 := wrap64_id b3.1 b3.2
    have w5 := wrap64_id b4.1 b4.2
    have hn := ih k (128 * y + bt s m % 128) (by omega) (by clear w2 w3 w4 w5; omega) he2
    rw [show k + (m + 1) + 1 = (k + m + 1) + 1 by omega, hi, tarryref01_ReadNumber.l214]
    refine (if_pos c1).trans ((if_pos c2).trans ((if_pos c3).trans ?_))
    rw [w1, w2, w3, w4, w5]
    exact hn
theorem ref_j208 (s : ByteArray) (last : Nat) (hl : last < s.size) (h9 : last ≤ 8) (k : Nat) (hk : 20 ≤ k) : tarryref01_ReadNumber.j208 k s last = some (rdFin s last) := by
  have h := ref_l214 k s last hl h9 (last + 1) (k - (last + 2)) 0 (Nat.le_refl _) (Int.le_refl 0) (by rw [Int.zero_mul, Int.zero_add])
  have e : ((last + 1 : Nat) : Int) - 1 = (last : Int) := by omega
  have c : ¬ ((last : Int) < 0) := by omega
  rw [e, show k - (last + 2) + (last + 1) + 1 = k by omega] at h
  rw [tarryref01_ReadNumber.j208, if_neg c]
  exact h
theorem ref_found (k : Nat) (hk : 20 ≤ k) (s : ByteArray) (last : Nat) (hl : last < s.size) (h9 : last ≤ 8) (f : Nat) : ∀ (m i : Nat), i + f = 9 → f < m →
    tarryref01_ReadNumber.l185 k s m last i = some (rdFin s last) := by
  have c : ¬ ((last : Int) < 0) := by omega
  have stop : tarryref01_ReadNumber.j184 k s last = some (rdFin s last) := by
    rw [tarryref01_ReadNumber.j184, if_neg c]
    exact ref_j208 s last hl h9 k hk
  induction f with
  | zero =>
    intro m i hi hm
    obtain ⟨m, rfl⟩ : ∃ q, m = q + 1 := ⟨m - 1, by omega⟩
    have e : ¬ ((i : Int) < 9) := by omega
    rw [tarryref01_ReadNumber.l185, if_neg e, stop]
    split <;> rfl
  | succ f ih =>
    intro m i hi hm
    obtain ⟨m, rfl⟩ : ∃ q, m = q + 1 := ⟨m - 1, by omega⟩
    have e : (i : Int) < 9 := by omega
    have hn := ih m (i + 1) (by omega) (by omega)
    have w : wrap64 ((i : Int) + 1) = ((i + 1 : Nat) : Int) := (wrap64_id (by omega) (by omega)).trans (by rfl)
    rw [tarryref01_ReadNumber.l185, if_pos e, if_neg c, w, hn, stop]
    split <;> rfl
theorem ref_loop (k : Nat) (hk : 20 ≤ k) (s : ByteArray) (hs : s.size ≤ 140737488351232) (f : Nat) : ∀ (m i : Nat), i + f = 9 → f < m →
    tarryref01_ReadNumber.l185 k s m (-1) i = some (rdGo s f i) := by
  have stop : tarryref01_ReadNumber.j184 k s (-1) = some (if s.size ≥ 9 then (0, ⟨#[]⟩, 3) else (0, ⟨#[]⟩, 4)) := by
    rw [tarryref01_ReadNumber.j184, if_pos (by decide)]
    by_cases h : s.size ≥ 9
    · rw [if_pos (by omega), if_pos h]
    · rw [if_neg (by omega), if_neg h, tarryref01_ReadNumber.j208, if_pos (by decide)]
  induction f with
  | zero =>
    intro m i hi hm
    obtain ⟨m, rfl⟩ : ∃ q, m = q + 1 := ⟨m - 1, by omega⟩
    have e : ¬ ((i : Int) < 9) := by omega
    rw [tarryref01_ReadNumber.l185, if_neg e, rdGo, stop]
    split <;> rfl
  | succ f ih =>
    intro m i hi hm
    obtain ⟨m, rfl⟩ : ∃ q, m = q + 1 := ⟨m - 1, by omega⟩
    have e : (i : Int) < 9 := by omega
    have hn := ih m (i + 1) (by omega) (by omega)
    rw [tarryref01_ReadNumber.l185, rdGo]
    by_cases h : i < s.size
    · have h1 : (i : Int) < (s.size : Int) := by omega
      have h0 : 0 ≤ (i : Int) := by omega
      have hf := ref_found k hk s i h (by omega) f m (i + 1) (by omega) (by omega)
      have w : wrap64 ((i : Int) + 1) = ((i + 1 : Nat) : Int) := (wrap64_id (by omega) (by omega)).trans (by rfl)
      rw [if_pos h1, if_pos h, if_pos e, if_pos (by decide), if_pos h0, if_pos h1, w]
      by_cases hc : bt s i < 128
      · rw [if_pos hc, if_neg (by clear w; omega)]
        exact hf
      · rw [if_neg hc, if_pos (by clear w; omega)]
        exact hn
    · have h1 : ¬ ((i : Int) < (s.size : Int)) := by omega
      rw [if_neg h1, if_neg h]
      exact stop
theorem ref_read_tells (k : Nat) (hk : 20 ≤ k) (s : ByteArray) (hs : s.size ≤ 140737488351232) : tarryref01_ReadNumber.f k s = some (rdGo s 9 0) :=
  ref_loop k hk s hs 9 k 0 rfl (by omega)
/-! ### what is written is read -/
def val : List Int → Int
  | [] => 0
  | b :: bs => b % 128 + 128 * val bs
theorem val_snoc (b : Int) : ∀ l : List Int, val (l ++ [b]) = val l + b % 128 * 128 ^ l.length
  | [] => by simp [val]
  | a :: l => by
    rw [List.cons_append, val, val_snoc b l, val, List.length_cons, Int.pow_succ, Int.mul_add, Int.mul_comm ((128 : Int) ^ l.length) 128, Int.mul_left_comm]
    omega
theorem rdv_val (s : ByteArray) : ∀ i, i ≤ s.size → rdv s i = val ((byI s).take i)
  | 0, _ => rfl
  | i + 1, h => by
    have hg := bt_get (s := s) (i := i) (by omega)
    have hl : ((byI s).take i).length = i := by rw [List.length_take, ← size_byI]; omega
    rw [rdv, rdv_val s i (by omega), List.take_add_one, hg, Option.toList_some, val_snoc, hl]
/-- A number's bytes: all but the last one are 128 or more. -/
inductive Dg : List Int → Prop where
  | last {b : Int} (h : 0 ≤ b) (h2 : b < 128) : Dg [b]
  | more {b : Int} {l : List Int} (h : 128 ≤ b) (h2 : b < 256) (k : Dg l) (h3 : 0 < val l) : Dg (b :: l)
theorem digs_ok : ∀ (n : Nat) (x : Int), 0 ≤ x → x < 128 * 128 ^ n → Dg (digs n x) ∧ val (digs n x) = x ∧ (digs n x).length ≤ n + 1
  | 0, x, h0, h1 => by
    have h1' : x < 128 := by simpa using h1
    refine ⟨.last h0 h1', ?_, by simp [digs]⟩
    simp [digs, val]
    omega
  | n + 1, x, h0, h1 => by
    rw [digs]
    by_cases h : x ≥ 128
    · have hp : (128 : Int) ^ (n + 1) = 128 ^ n * 128 := Int.pow_succ ..
      obtain ⟨a1, a2, a3⟩ := digs_ok n (x / 128) (by omega) (by omega)
      rw [if_pos h]
      refine ⟨.more (by omega) (by omega) a1 (by rw [a2]; omega), ?_, by simp; omega⟩
      rw [val, a2]
      omega
    · rw [if_neg h]
      refine ⟨.last h0 (by omega), ?_, by simp⟩
      simp [val]
      omega
theorem Dg.ok8 {l : List Int} (h : Dg l) : okB l := by
  induction h with
  | last h h2 => intro x hx; simp at hx; subst hx; omega
  | more h h2 k h3 ih =>
    intro x hx
    rcases List.mem_cons.1 hx with rfl | hx
    · omega
    · exact ih x hx
theorem Dg.ne {l : List Int} (h : Dg l) : 1 ≤ l.length := by cases h <;> simp
theorem Dg.at {l : List Int} (h : Dg l) : (∀ (i : Nat) (x : Int), i + 1 < l.length → l[i]? = some x → 128 ≤ x) ∧ ∀ x : Int, l[l.length - 1]? = some x → x < 128 ∧ (1 < l.length → x ≠ 0) := by
  induction h with
  | last h h2 => exact ⟨fun i x hi => by simp at hi, fun x hx => by simp at hx; subst hx; exact ⟨h2, by simp⟩⟩
  | @more b l h h2 k h3 ih =>
    have hne := k.ne
    refine ⟨fun i x hi hx => ?_, fun x hx => ?_⟩
    · cases i with
      | zero => simp at hx; omega
      | succ i => exact ih.1 i x (by simpa using hi) (by simpa using hx)
    · rw [List.length_cons, Nat.add_sub_cancel, show l.length = (l.length - 1) + 1 by omega, List.getElem?_cons_succ] at hx
      obtain ⟨h4, h5⟩ := ih.2 x hx
      refine ⟨h4, fun _ h0 => ?_⟩
      by_cases h6 : 1 < l.length
      · exact h5 h6 h0
      · have h7 : l.length = 1 := by omega
        cases l with
        | nil => simp at h7
        | cons y ys =>
          have : ys = [] := by simpa using h7
          subst this
          simp at hx
          subst hx h0
          simp [val] at h3
theorem Dg.of : ∀ (l : List Int), okB l → 1 ≤ l.length → (∀ (i : Nat) (x : Int), i + 1 < l.length → l[i]? = some x → 128 ≤ x) → (∀ x : Int, l[l.length - 1]? = some x → x < 128 ∧ (1 < l.length → x ≠ 0)) → Dg l
  | [], _, h, _, _ => by simp at h
  | [b], ho, _, _, h => by
    have := h b rfl
    exact .last (ho b (by simp)).1 this.1
  | b :: c :: l, ho, _, h1, h2 => by
    have ih := Dg.of (c :: l) (fun x hx => ho x (by simp [hx])) (by simp) (fun i x hi hx => h1 (i + 1) x (by simpa using hi) (by simpa using hx)) (fun x hx => by
      have := h2 x (by simpa using hx)
      exact ⟨this.1, fun _ => this.2 (by simp)⟩)
    refine .more (h1 0 b (by simp) rfl) (ho b (by simp)).2 ih ?_
    have key : ∀ (l : List Int), okB l → Dg l → (∀ x : Int, l[l.length - 1]? = some x → x ≠ 0) → 0 < val l := by
      intro l ho hd hl
      cases hd with
      | @last b h h2 =>
        have := hl b rfl
        simp [val]
        omega
      | more h h2 k h3 => rw [val]; omega
    exact key _ (fun x hx => ho x (by simp [hx])) ih fun x hx => (h2 x (by simpa using hx)).2 (by simp)
theorem Dg.digs {l : List Int} (h : Dg l) : ∀ n, l.length ≤ n + 1 → digs n (val l) = l := by
  induction h with
  | @last b h h2 =>
    intro n _
    have e : val [b] = b := by simp [val]; omega
    rw [e]
    cases n with
    | zero => rfl
    | succ n => rw [Pure.digs, if_neg (by omega)]
  | @more b l h h2 k h3 ih =>
    intro n hn
    cases n with
    | zero => have := k.ne; simp only [List.length_cons] at hn; omega
    | succ n =>
      rw [Pure.digs, val, if_pos (by omega), show (b % 128 + 128 * val l) / 128 = val l by omega, ih n (by simpa using hn), show (b % 128 + 128 * val l) % 128 + 128 = b by omega]
theorem rdGo_found (s : ByteArray) (j : Nat) (hj : j < s.size) (h8 : bt s j < 128) : ∀ (f i : Nat), i ≤ j → j < i + f → (∀ q, i ≤ q → q < j → 128 ≤ bt s (q : Int)) → rdGo s f i = rdFin s j
  | 0, i, h1, h2, _ => by omega
  | f + 1, i, h1, h2, h3 => by
    rw [rdGo, if_pos (by omega)]
    by_cases e : i = j
    · subst e
      rw [if_neg (by omega)]
    · rw [if_pos (h3 i (Nat.le_refl _) (by omega))]
      exact rdGo_found s j hj h8 f (i + 1) (by omega) (by omega) fun q h4 h5 => h3 q (by omega) h5
theorem rdGo_inv (s : ByteArray) (n : Int) (r : ByteArray) : ∀ (f i : Nat), rdGo s f i = (n, r, 0) → ∃ j, i ≤ j ∧ j < i + f ∧ j < s.size ∧ (∀ q, i ≤ q → q < j → 128 ≤ bt s (q : Int)) ∧ bt s j < 128 ∧ rdFin s j = (n, r, 0)
  | 0, i, h => by
    rw [rdGo] at h
    split at h <;> simp at h
  | f + 1, i, h => by
    rw [rdGo] at h
    split at h
    · rename_i hi
      split at h
      · rename_i hb
        obtain ⟨j, h1, h2, h3, h4, h5, h6⟩ := rdGo_inv s n r f (i + 1) h
        refine ⟨j, by omega, by omega, h3, fun q h7 h8 => ?_, h5, h6⟩
        rcases Nat.lt_or_eq_of_le h7 with h9 | h9
        · exact h4 q h9 h8
        · subst h9; exact hb
      · rename_i hb
        exact ⟨i, Nat.le_refl _, by omega, hi, fun q h7 h8 => by omega, by omega, h⟩
    · split at h <;> simp at h
def may (a : Int) : Prop := -1152921504606846976 ≤ a ∧ a ≤ 1152921504606846976
/-- A number's bytes. -/
def numS (a : Int) : ByteArray := strOfNums (digs 8 (zig a))
theorem zig_range {a : Int} (h : may a) : 0 ≤ zig a ∧ zig a < 128 * 128 ^ 8 := by
  unfold may at h
  have h8 : (128 : Int) * 128 ^ 8 = 9223372036854775808 := by decide +kernel
  rw [h8]
  unfold zig
  split <;> omega
theorem zag_zig (a : Int) : zag (zig a) = a := by unfold zag zig; split <;> split <;> omega
theorem zig_zag {x : Int} (h : 0 ≤ x) : zig (zag x) = x := by unfold zag zig; split <;> split <;> omega
theorem numS_by {a : Int} (h : may a) : byI (numS a) = digs 8 (zig a) := byI_num (digs_ok 8 _ (zig_range h).1 (zig_range h).2).1.ok8
theorem numS_size {a : Int} (h : may a) : 1 ≤ (numS a).size ∧ (numS a).size ≤ 9 := by
  have := digs_ok 8 _ (zig_range h).1 (zig_range h).2
  rw [size_byI, numS_by h]
  exact ⟨this.1.ne, this.2.2⟩
/-- What is written is read. -/
theorem read_num {a : Int} (h : may a) (r : ByteArray) : rdGo (numS a ++ r) 9 0 = (a, r, 0) := by
  obtain ⟨d1, d2, d3⟩ := digs_ok 8 _ (zig_range h).1 (zig_range h).2
  have hb := numS_by h
  have hn := d1.ne
  obtain ⟨d4, d5⟩ := d1.at
  have hs : (numS a).size = (digs 8 (zig a)).length := by rw [size_byI, hb]
  have hget : ∀ i, i < (digs 8 (zig a)).length → (byI (numS a ++ r))[i]? = (digs 8 (zig a))[i]? := fun i hi => by
    rw [byI_app, hb, List.getElem?_append_left hi]
  have hj : (digs 8 (zig a)).length - 1 < (numS a ++ r).size := by rw [app_size, hs]; omega
  have hl : ∃ x, (digs 8 (zig a))[(digs 8 (zig a)).length - 1]? = some x := ⟨_, List.getElem?_eq_getElem (by omega)⟩
  obtain ⟨x, hx⟩ := hl
  have hbx := bt_of ((hget _ (by omega)).trans hx)
  obtain ⟨d6, d7⟩ := d5 x hx
  rw [rdGo_found (numS a ++ r) _ hj (by rw [hbx]; exact d6) 9 0 (Nat.zero_le _) (by omega) fun q _ hq => by
    obtain ⟨y, hy⟩ : ∃ y, (digs 8 (zig a))[q]? = some y := ⟨_, List.getElem?_eq_getElem (by omega)⟩
    rw [bt_of ((hget q (by omega)).trans hy)]
    exact d4 q y (by omega) hy]
  have hv : rdv (numS a ++ r) ((digs 8 (zig a)).length - 1 + 1) = zig a := by
    rw [rdv_val _ _ (by omega), byI_app, hb, Nat.sub_add_cancel hn, List.take_left, d2]
  unfold rdFin
  rw [hv, zag_zig, hbx, if_neg]
  · rw [Nat.sub_add_cancel hn, ← hs, ext_right]
  · rintro (⟨h1, h2⟩ | h1)
    · exact d7 (by omega) h1
    · exact h1 h
/-- What is read was written. -/
theorem read_inv {s r : ByteArray} {n : Int} (h : rdGo s 9 0 = (n, r, 0)) : may n ∧ s = numS n ++ r := by
  obtain ⟨j, _, h2, h3, h4, h5, h6⟩ := rdGo_inv s n r 9 0 h
  unfold rdFin at h6
  split at h6
  · simp at h6
  · rename_i hc
    simp only [Prod.mk.injEq, and_true] at h6
    obtain ⟨rfl, rfl⟩ := h6
    have hm : may (zag (rdv s (j + 1))) := by
      unfold may
      exact Classical.byContradiction fun hh => hc (.inr hh)
    refine ⟨hm, ?_⟩
    have hl : ((byI s).take (j + 1)).length = j + 1 := by rw [List.length_take, ← size_byI]; omega
    have hd : Dg ((byI s).take (j + 1)) := by
      refine Dg.of _ (fun x hx => okB_byI s x (List.mem_of_mem_take hx)) (by omega) (fun i x hi hx => ?_) (fun x hx => ?_)
      · rw [hl] at hi
        rw [List.getElem?_take, if_pos (by omega)] at hx
        rw [← bt_of hx]
        exact h4 i (Nat.zero_le _) (by omega)
      · rw [hl, Nat.add_sub_cancel, List.getElem?_take, if_pos (by omega)] at hx
        rw [← bt_of hx]
        exact ⟨h5, fun hlt h0 => hc (.inl ⟨h0, by omega⟩)⟩
    have hv := rdv_val s (j + 1) (by omega)
    have h0 : 0 ≤ rdv s (j + 1) := (rdv_range s _).1
    have e : digs 8 (zig (zag (rdv s (j + 1)))) = (byI s).take (j + 1) := by rw [zig_zag h0, hv, hd.digs 8 (by omega)]
    apply byI_inj
    rw [byI_app, numS_by hm, e, byI_ext, size_byI s, List.take_length, List.take_append_drop]
/-! ### rows of texts -/
def okRow (l : List ByteArray) : Prop := l.length ≤ 256 ∧ ∀ s ∈ l, s.size ≤ 4096
instance (l : List ByteArray) : Decidable (okRow l) := by unfold okRow; exact inferInstance
def txS (s : ByteArray) : ByteArray := numS (s.size : Int) ++ s
def txs : List ByteArray → ByteArray
  | [] => ⟨#[]⟩
  | s :: l => txS s ++ txs l
def rowS (l : List ByteArray) : ByteArray := numS (l.length : Int) ++ txs l
theorem may_nat {n : Nat} (h : n ≤ 1000000) : may (n : Int) := by unfold may; omega
theorem txs_size : ∀ {l : List ByteArray}, (∀ s ∈ l, s.size ≤ 4096) → (txs l).size ≤ l.length * 4105
  | [], _ => by rw [txs]; exact Nat.le_refl 0
  | s :: l, h => by
    have h1 := h s (List.mem_cons_self ..)
    have h2 := (numS_size (may_nat (n := s.size) (by omega))).2
    have h3 := txs_size (l := l) fun x hx => h x (List.mem_cons_of_mem _ hx)
    rw [txs, txS, app_size, app_size, List.length_cons]
    generalize (numS (s.size : Int)).size = u at h2 ⊢
    generalize (txs l).size = v at h3 ⊢
    omega
theorem txs_fold (q : ByteArray → ByteArray) : ∀ (l : List ByteArray) (a : ByteArray), (∀ s ∈ l, q s = txS s) → (l.map q).foldl (fun r s => r ++ s) a = a ++ txs l
  | [], a, _ => (app_nil a).symm
  | s :: l, a, h => by
    rw [List.map_cons, List.foldl_cons, txs_fold q l _ (fun x hx => h x (List.mem_cons_of_mem _ hx)), h s (List.mem_cons_self ..), txs, app_assoc]
instance (a : Int) : Decidable (may a) := by unfold may; exact inferInstance
theorem num_of (k : Nat) (hk : 11 ≤ k) (a : Int) : pack_number.f k a = some (if may a then numS a else ⟨#[]⟩) := by
  unfold pack_number.f
  rw [number_tells k hk a, Option.bind_some]
  by_cases h : may a
  · rw [if_pos h]
    have h2 : -1152921504606846976 ≤ a ∧ a ≤ 1152921504606846976 := h
    simp only [if_pos h2]
    rfl
  · rw [if_neg h]
    have h2 : ¬ (-1152921504606846976 ≤ a ∧ a ≤ 1152921504606846976) := h
    simp only [if_neg h2]
theorem row_tells (k : Nat) (hk : 11 ≤ k) (l : List ByteArray) : pack_Row.f k l = some (if okRow l then (rowS l, 0) else (⟨#[]⟩, 3)) := by
  have h1 : l.all (pack_Row.ok1 k) = true := by
    rw [List.all_eq_true]
    intro s hs
    unfold pack_Row.ok1
    by_cases h : 4096 < s.size
    · rw [decide_eq_true h]; rfl
    · have hm := may_nat (n := s.size) (by omega)
      have h2 := (numS_size hm).2
      rw [num_of k hk, if_pos hm, Option.elim_some, decide_eq_true (Nat.le_trans h2 (by decide)), Bool.or_true]
  unfold pack_Row.f
  rw [if_pos h1]
  by_cases h : okRow l
  · have hl := may_nat (n := l.length) (by have := h.1; omega)
    have hq : ∀ s ∈ l, pack_Row.q k s = txS s := by
      intro s hs
      have hm := may_nat (n := s.size) (by have := h.2 s hs; omega)
      unfold pack_Row.q
      rw [num_of k hk, if_pos hm]
      rfl
    have h3 := txs_size h.2
    have h4 := (numS_size hl).2
    have h5 := h.1
    rw [if_pos h, if_pos ⟨h.1, by rw [List.all_eq_true]; exact fun s hs => decide_eq_true (h.2 s hs)⟩, num_of k hk, if_pos hl, Option.bind_some, txs_fold _ _ _ hq]
    refine if_pos ?_
    rw [app_size]
    generalize (numS (l.length : Int)).size = u at h4 ⊢
    generalize (txs l).size = v at h3 ⊢
    omega
  · rw [if_neg h]
    refine if_neg fun h2 => h ⟨h2.1, fun s hs => ?_⟩
    have := List.all_eq_true.1 h2.2 s hs
    exact of_decide_eq_true this
/-! ### reading -/
theorem rdGo_err (s : ByteArray) : ∀ (f i : Nat) (n : Int) (r : ByteArray) (e : Int), rdGo s f i = (n, r, e) → e ≠ 0 → n = 0 ∧ r = ⟨#[]⟩
  | 0, i, n, r, e, h, he => by
    rw [rdGo] at h
    split at h <;> (simp only [Prod.mk.injEq] at h; exact ⟨h.1.symm, h.2.1.symm⟩)
  | f + 1, i, n, r, e, h, he => by
    rw [rdGo] at h
    split at h
    · split at h
      · exact rdGo_err s f (i + 1) n r e h he
      · unfold rdFin at h
        split at h
        · simp only [Prod.mk.injEq] at h
          exact ⟨h.1.symm, h.2.1.symm⟩
        · simp only [Prod.mk.injEq] at h
          exact absurd h.2.2.symm he
    · split at h <;> (simp only [Prod.mk.injEq] at h; exact ⟨h.1.symm, h.2.1.symm⟩)
def cntOf (m : Int) (q : Int × ByteArray × Int) : Int × ByteArray × Int := if q.2.2 = 0 then (if q.1 > m then (0, ⟨#[]⟩, 3) else if q.1 < 0 then (0, ⟨#[]⟩, 5) else (q.1, q.2.1, 0)) else (0, ⟨#[]⟩, q.2.2)
def cnt (s : ByteArray) (m : Int) : Int × ByteArray × Int := cntOf m (rdGo s 9 0)
theorem cnt_num {n : Int} (h : may n) (h0 : 0 ≤ n) {m : Int} (hm : n ≤ m) (r : ByteArray) : cnt (numS n ++ r) m = (n, r, 0) := by
  unfold cnt cntOf
  rw [read_num h r]
  dsimp only
  rw [if_pos rfl, if_neg (by omega), if_neg (by omega)]
theorem cnt_inv {s r : ByteArray} {n m : Int} (h : cnt s m = (n, r, 0)) : may n ∧ 0 ≤ n ∧ n ≤ m ∧ s = numS n ++ r := by
  unfold cnt cntOf at h
  generalize hq : rdGo s 9 0 = q at h
  obtain ⟨q1, q2, q3⟩ := q
  simp only at h
  split at h
  · rename_i h3
    subst h3
    split at h
    · simp at h
    · split at h
      · simp at h
      · simp only [Prod.mk.injEq, and_true] at h
        obtain ⟨rfl, rfl⟩ := h
        obtain ⟨h4, h5⟩ := read_inv hq
        exact ⟨h4, by omega, by omega, h5⟩
  · rename_i h3
    simp only [Prod.mk.injEq] at h
    exact absurd h.2.2 h3
theorem count_tells (k : Nat) (hk : 10 ≤ k) (s : ByteArray) (hs : s.size ≤ 140737488351232) (m : Int) : pack_count.f k s m = some (cnt s m) := by
  unfold pack_count.f cnt cntOf
  rw [read_tells k hk s hs, Option.bind_some]
  generalize rdGo s 9 0 = q
  obtain ⟨q1, q2, q3⟩ := q
  simp only
  split
  · split
    · rfl
    · split <;> rfl
  · rfl
def rrGo : Nat → ByteArray → List ByteArray → List ByteArray × Int
  | 0, s, acc => if s = ⟨#[]⟩ then (acc, 0) else ([], 5)
  | d + 1, s, acc => if (cnt s 4096).2.2 = 0 then (if (cnt s 4096).1 > ((cnt s 4096).2.1.size : Int) then ([], 4) else rrGo d ((cnt s 4096).2.1.extract (cnt s 4096).1.toNat (cnt s 4096).2.1.size) (acc ++ [(cnt s 4096).2.1.extract 0 (cnt s 4096).1.toNat])) else ([], (cnt s 4096).2.2)
def readRow (s : ByteArray) : List ByteArray × Int := if (cnt s 256).2.2 = 0 then rrGo (cnt s 256).1.toNat (cnt s 256).2.1 [] else ([], (cnt s 256).2.2)
theorem cnt_sub {s : ByteArray} {m : Int} (h : (cnt s m).2.2 = 0) : 0 ≤ (cnt s m).1 ∧ (cnt s m).1 ≤ m ∧ (cnt s m).2.1.size ≤ s.size := by
  generalize hq : cnt s m = q at h ⊢
  obtain ⟨q1, q2, q3⟩ := q
  simp only at h
  subst h
  obtain ⟨h1, h2, h3, h4⟩ := cnt_inv hq
  refine ⟨h2, h3, ?_⟩
  have := congrArg ByteArray.size h4
  rw [app_size] at this
  rw [this]
  exact Nat.le_add_left _ _
theorem readRow_l1 (kk : Nat) (hk : 10 ≤ kk) (t : Nat) (d : Nat) : ∀ (m i : Nat) (s : ByteArray) (acc : List ByteArray), i + d = t → d < m → s.size ≤ 140737488351232 → acc.length + d ≤ 256 → t ≤ 256 →
    pack_ReadRow.l1 kk (t : Int) m s acc (i : Int) = some (rrGo d s acc) := by
  induction d with
  | zero =>
    intro m i s acc hi hm hs ha ht
    obtain ⟨m, rfl⟩ : ∃ q, m = q + 1 := ⟨m - 1, by omega⟩
    rw [pack_ReadRow.l1, if_neg (by omega), rrGo, beq_is]
    by_cases h : s = ⟨#[]⟩
    · rw [if_pos (decide_eq_true h), if_pos h]
    · rw [if_neg (by rw [decide_eq_false h]; decide), if_neg h]
  | succ d ih =>
    intro m i s acc hi hm hs ha ht
    obtain ⟨m, rfl⟩ : ∃ q, m = q + 1 := ⟨m - 1, by omega⟩
    have c1 : (i : Int) < (t : Int) := by omega
    rw [pack_ReadRow.l1, if_pos c1, count_tells kk hk s hs, Option.bind_some, rrGo]
    have hsub := cnt_sub (s := s) (m := 4096)
    generalize cnt s 4096 = q at hsub ⊢
    obtain ⟨q1, q2, q3⟩ := q
    simp only at hsub ⊢
    by_cases h3 : q3 = 0
    · obtain ⟨h4, h5, h6⟩ := hsub h3
      rw [if_pos h3, if_pos h3]
      by_cases h7 : q1 > (q2.size : Int)
      · rw [if_pos h7, if_pos h7]
      · have hl : (acc.length + ([q2.extract 0 q1.toNat] : List ByteArray).length) * 16 ≤ 140737488355328 := by simp only [List.length_cons, List.length_nil]; omega
        have hx : (q2.extract q1.toNat q2.size).size ≤ 140737488351232 := by rw [ext_size _ _ _ (Nat.le_refl _)]; omega
        have h9 : (acc ++ [q2.extract 0 q1.toNat]).length + d ≤ 256 := by
          rw [List.length_append, List.length_cons, List.length_nil]
          omega
        have h10 : q1 ≤ (q2.size : Int) := by omega
        have h11 : i + 1 + d = t := by omega
        have h12 : d < m := by omega
        have e1 : wrap64 ((i : Int) + 1) = ((i + 1 : Nat) : Int) := (wrap64_id (by omega) (by omega)).trans (by rfl)
        rw [if_neg h7, if_neg h7, if_pos h4, if_pos h10, if_pos hl, e1]
        exact ih m (i + 1) _ _ h11 h12 hx h9 ht
    · rw [if_neg h3, if_neg h3]
theorem readRow_tells (k : Nat) (hk : 300 ≤ k) (s : ByteArray) (hs : s.size ≤ 140737488351232) : pack_ReadRow.f k s = some (readRow s) := by
  unfold pack_ReadRow.f readRow
  rw [count_tells k (by omega) s hs, Option.bind_some]
  have hsub := cnt_sub (s := s) (m := 256)
  generalize cnt s 256 = q at hsub ⊢
  obtain ⟨q1, q2, q3⟩ := q
  simp only at hsub ⊢
  by_cases h3 : q3 = 0
  · obtain ⟨h4, h5, h6⟩ := hsub h3
    rw [if_pos h3, if_pos h3]
    obtain ⟨n, rfl⟩ := Int.eq_ofNat_of_zero_le h4
    exact readRow_l1 k (by omega) n n k 0 q2 [] (by omega) (by omega) (by omega) (by simp only [List.length_nil]; omega) (by omega)
  · rw [if_neg h3, if_neg h3]
/-- What is written is read. -/
theorem rr_txs : ∀ (l acc : List ByteArray), (∀ s ∈ l, s.size ≤ 4096) → rrGo l.length (txs l) acc = (acc ++ l, 0)
  | [], acc, _ => by rw [txs, List.length_nil, rrGo, if_pos rfl, List.append_nil]
  | s :: l, acc, h => by
    have h1 := h s (List.mem_cons_self ..)
    have hc : cnt (txs (s :: l)) 4096 = ((s.size : Int), s ++ txs l, 0) := by
      rw [txs, txS, app_assoc]
      exact cnt_num (may_nat (by omega)) (by omega) (by omega) _
    have e1 : (s ++ txs l).extract s.size (s ++ txs l).size = txs l := ext_right s (txs l)
    have e2 : (s ++ txs l).extract 0 s.size = s := ext_left s (txs l)
    have e3 : ¬ ((s.size : Int) > ((s ++ txs l).size : Int)) := by rw [app_size]; omega
    rw [List.length_cons, rrGo, hc]
    simp only [Int.toNat_natCast]
    rw [if_neg e3, e1, e2, rr_txs l _ fun x hx => h x (List.mem_cons_of_mem _ hx), List.append_assoc]
    rfl
theorem readRow_rowS {l : List ByteArray} (h : okRow l) : readRow (rowS l) = (l, 0) := by
  have hc : cnt (rowS l) 256 = ((l.length : Int), txs l, 0) := cnt_num (may_nat (by have := h.1; omega)) (by omega) (by have := h.1; omega) _
  unfold readRow
  rw [hc]
  simp only [Int.toNat_natCast]
  exact rr_txs l [] h.2
/-- What is read was written. -/
theorem rr_inv : ∀ (d : Nat) (s : ByteArray) (acc r : List ByteArray), rrGo d s acc = (r, 0) → ∃ l, r = acc ++ l ∧ l.length = d ∧ s = txs l ∧ ∀ x ∈ l, x.size ≤ 4096
  | 0, s, acc, r, h => by
    rw [rrGo] at h
    split at h
    · rename_i hs
      simp only [Prod.mk.injEq, and_true] at h
      exact ⟨[], by rw [List.append_nil]; exact h.symm, rfl, hs, by simp⟩
    · simp at h
  | d + 1, s, acc, r, h => by
    rw [rrGo] at h
    split at h
    · rename_i h3
      split at h
      · simp at h
      · rename_i h7
        obtain ⟨h1, h2, h4, h5⟩ := cnt_inv (s := s) (m := 4096) (n := (cnt s 4096).1) (r := (cnt s 4096).2.1) (by rw [← h3])
        obtain ⟨l, rfl, rfl, h8, h9⟩ := rr_inv d _ _ r h
        generalize (cnt s 4096).1 = q1 at *
        generalize (cnt s 4096).2.1 = q2 at *
        obtain ⟨n, rfl⟩ := Int.eq_ofNat_of_zero_le h2
        simp only [Int.toNat_natCast] at h8 ⊢
        have hn : n ≤ q2.size := by omega
        have hz : (q2.extract 0 n).size = n := by rw [ext_size _ _ _ hn, Nat.sub_zero]
        refine ⟨q2.extract 0 n :: l, by rw [List.append_assoc]; rfl, rfl, ?_, fun x hx => ?_⟩
        · rw [txs, txS, hz, ← h8, app_assoc, ext_split q2 n hn]
          exact h5
        · rcases List.mem_cons.1 hx with rfl | hx
          · omega
          · exact h9 x hx
    · rename_i h3
      simp only [Prod.mk.injEq] at h
      exact absurd h.2 h3
theorem readRow_inv {s : ByteArray} {l : List ByteArray} (h : readRow s = (l, 0)) : okRow l ∧ s = rowS l := by
  unfold readRow at h
  split at h
  · rename_i h3
    obtain ⟨h1, h2, h4, h5⟩ := cnt_inv (s := s) (m := 256) (n := (cnt s 256).1) (r := (cnt s 256).2.1) (by rw [← h3])
    obtain ⟨l', rfl, h7, h8, h9⟩ := rr_inv _ _ _ _ h
    generalize (cnt s 256).1 = q1 at *
    generalize (cnt s 256).2.1 = q2 at *
    obtain ⟨n, rfl⟩ := Int.eq_ofNat_of_zero_le h2
    rw [Int.toNat_natCast] at h7
    subst h7
    exact ⟨⟨by omega, h9⟩, by rw [h5, h8]; rfl⟩
  · rename_i h3
    simp only [Prod.mk.injEq] at h
    exact absurd h.2 h3
theorem rr_err : ∀ (d : Nat) (s : ByteArray) (acc r : List ByteArray) (e : Int), rrGo d s acc = (r, e) → e ≠ 0 → r = []
  | 0, s, acc, r, e, h, he => by
    rw [rrGo] at h
    split at h <;> simp only [Prod.mk.injEq] at h
    · exact absurd h.2.symm he
    · exact h.1.symm
  | d + 1, s, acc, r, e, h, he => by
    rw [rrGo] at h
    split at h
    · split at h
      · simp only [Prod.mk.injEq] at h
        exact h.1.symm
      · exact rr_err d _ _ r e h he
    · simp only [Prod.mk.injEq] at h
      exact h.1.symm
theorem readRow_err {s : ByteArray} {l : List ByteArray} {e : Int} (h : readRow s = (l, e)) (he : e ≠ 0) : l = [] := by
  unfold readRow at h
  split at h
  · exact rr_err _ _ _ _ _ h he
  · simp only [Prod.mk.injEq] at h
    exact h.1.symm
def fewS (l : List ByteArray) : List ByteArray := (l.take 258).map fun s => s.extract 0 (min s.size 4100)
theorem mn_nat (a b : Nat) : mn (a : Int) (b : Int) = ((min a b : Nat) : Int) := by unfold mn; split <;> omega
theorem few_r1 (k : Nat) (l0 : List ByteArray) : ∀ (l acc : List ByteArray), acc.length + l.length ≤ 258 → tarrylaw01_few.r1 k l0 l acc = some (acc ++ l.map fun s => s.extract 0 (min s.size 4100))
  | [], acc, _ => by rw [tarrylaw01_few.r1]; simp
  | s :: l, acc, h => by
    rw [List.length_cons] at h
    have e : mn (s.size : Int) 4100 = ((min s.size 4100 : Nat) : Int) := mn_nat s.size 4100
    rw [tarrylaw01_few.r1, e, if_pos (by omega), if_pos (by omega), if_pos (by simp only [List.length_cons, List.length_nil]; omega), few_r1 k l0 l _ (by simp only [List.length_append, List.length_cons, List.length_nil]; omega), Int.toNat_natCast, List.append_assoc]
    rfl
theorem few_tells (k : Nat) (hk : 300 ≤ k) (l : List ByteArray) : tarrylaw01_few.f k l = some (fewS l) := by
  have e : mn (l.length : Int) 258 = ((min l.length 258 : Nat) : Int) := mn_nat l.length 258
  have e2 : (l.take ((mn (l.length : Int) 258).toNat)).drop 0 = l.take 258 := by
    rw [e, Int.toNat_natCast, List.drop_zero]
    rcases Nat.le_total l.length 258 with h | h
    · rw [Nat.min_eq_left h, List.take_length, List.take_of_length_le h]
    · rw [Nat.min_eq_right h]
  have h2 : (l.take 258).length ≤ 258 := by rw [List.length_take]; omega
  have h := tarrylaw01_few.r1_eq k l (by rw [e2]; omega) k 0 [] (by rw [e2]; omega) (Nat.zero_le _)
  rw [e2, List.drop_zero, few_r1 k l _ _ (by rw [List.length_nil]; omega)] at h
  unfold tarrylaw01_few.f
  rw [e, if_pos (by omega), if_pos (by omega)]
  exact h
theorem few_len (l : List ByteArray) : (fewS l).length ≤ 258 := by unfold fewS; rw [List.length_map, List.length_take]; omega
theorem few_size {l : List ByteArray} {s : ByteArray} (h : s ∈ fewS l) : s.size ≤ 4100 := by
  obtain ⟨x, _, rfl⟩ := List.mem_map.1 h
  rw [ext_size _ _ _ (Nat.min_le_left _ _)]
  omega
theorem same_r1 (k : Nat) (l l1 : List ByteArray) : ∀ (r : List ByteArray) (i : Nat), r = l1.drop i → tarryref01_Same.r1 k l l1 r i = some true
  | [], i, _ => by rw [tarryref01_Same.r1]
  | x :: r, i, h => by
    obtain ⟨_, h2, h3⟩ := drop_cons_is h.symm
    rw [tarryref01_Same.r1, Int.toNat_natCast, h2, Option.bind_some, if_pos (by rw [beq_is]; exact decide_eq_true rfl)]
    exact same_r1 k l l1 r (i + 1) h3.symm
theorem same_self (k : Nat) (l : List ByteArray) (hl : l.length < k) (hl2 : l.length ≤ 1000000) : tarryref01_Same.f k l l = some true := by
  unfold tarryref01_Same.f
  rw [if_pos rfl]
  have h := tarryref01_Same.r1_eq k l l (by omega) k 0 (by omega) (Nat.zero_le _)
  rw [List.drop_zero] at h
  exact h.trans (same_r1 k l l l 0 rfl)
theorem alive1 : tarrylaw01_alive.f 1000 = some true := by decide +kernel
theorem mayRow_r1 (k : Nat) (l0 : List ByteArray) : ∀ l : List ByteArray, tarryref01_MayRow.r1 k l0 l = some (if (∀ s ∈ l, s.size ≤ 4096) then decide ((l0.length : Int) ≤ 256) else false)
  | [] => by rw [tarryref01_MayRow.r1, if_pos (by simp)]
  | s :: l => by
    rw [tarryref01_MayRow.r1]
    by_cases h : (s.size : Int) > 4096
    · rw [if_pos h, if_neg]
      intro h2
      have := h2 s (List.mem_cons_self ..)
      omega
    · rw [if_neg h, mayRow_r1 k l0 l]
      congr 1
      by_cases h2 : ∀ x ∈ l, x.size ≤ 4096
      · rw [if_pos h2, if_pos]
        intro x hx
        rcases List.mem_cons.1 hx with rfl | hx
        · omega
        · exact h2 x hx
      · rw [if_neg h2, if_neg]
        exact fun h3 => h2 fun x hx => h3 x (List.mem_cons_of_mem _ hx)
theorem mayRow_tells (k : Nat) (l : List ByteArray) (hl : l.length < k) (hl2 : l.length ≤ 1000000) : tarryref01_MayRow.f k l = some (decide (okRow l)) := by
  have h := tarryref01_MayRow.r1_eq k l (by omega) k 0 (by omega) (Nat.zero_le _)
  rw [List.drop_zero, mayRow_r1] at h
  refine h.trans (congrArg some ?_)
  by_cases h2 : ∀ s ∈ l, s.size ≤ 4096
  · rw [if_pos h2]
    by_cases h3 : l.length ≤ 256
    · rw [decide_eq_true (by omega), decide_eq_true (p := okRow l) ⟨h3, h2⟩]
    · rw [decide_eq_false (by omega), decide_eq_false (p := okRow l) (fun h4 => h3 h4.1)]
  · rw [if_neg h2, decide_eq_false (p := okRow l) (fun h4 => h2 h4.2)]
theorem rowRef_r1 (k : Nat) (hk : 20 ≤ k) (l0 : List ByteArray) : ∀ (l : List ByteArray) (a : ByteArray), (∀ s ∈ l, s.size ≤ 4096) → a.size + l.length * 4105 ≤ 9223372036854775807 → tarryref01_Row.r1 k l0 l a = some (a ++ txs l)
  | [], a, _, _ => by rw [tarryref01_Row.r1, txs, app_nil]
  | s :: l, a, h, ha => by
    have h1 := h s (List.mem_cons_self ..)
    have hm := may_nat (n := s.size) (by omega)
    have h2 := (numS_size hm).2
    have hn : tarryref01_Number.f k (s.size : Int) = some (numS (s.size : Int)) := ref_number_tells k (by omega) (s.size : Int) hm
    rw [List.length_cons] at ha
    have e : a ++ numS (s.size : Int) ++ s = a ++ txS s := by rw [txS, app_assoc]
    have z1 : a.size + (numS (s.size : Int)).size ≤ 9223372036854775807 := by
      generalize (numS (s.size : Int)).size = u at h2 ⊢
      omega
    have z2 : (a ++ numS (s.size : Int)).size + s.size ≤ 9223372036854775807 := by
      rw [app_size]
      generalize (numS (s.size : Int)).size = u at h2 ⊢
      omega
    have z3 : (a ++ txS s).size + l.length * 4105 ≤ 9223372036854775807 := by
      rw [app_size, txS, app_size]
      generalize (numS (s.size : Int)).size = u at h2 ⊢
      omega
    rw [tarryref01_Row.r1, hn, Option.bind_some, if_pos z1, if_pos z2, e, rowRef_r1 k hk l0 l _ (fun x hx => h x (List.mem_cons_of_mem _ hx)) z3, txs, app_assoc]
theorem rowRef_tells (k : Nat) (hk : 300 ≤ k) {l : List ByteArray} (h : okRow l) : tarryref01_Row.f k l = some (rowS l) := by
  have h1 := h.1
  have hm := may_nat (n := l.length) (by omega)
  have h2 := (numS_size hm).2
  have hn : tarryref01_Number.f k (l.length : Int) = some (numS (l.length : Int)) := ref_number_tells k (by omega) (l.length : Int) hm
  have z : (numS (l.length : Int)).size + l.length * 4105 ≤ 9223372036854775807 := by
    generalize (numS (l.length : Int)).size = u at h2 ⊢
    omega
  unfold tarryref01_Row.f
  rw [hn, Option.bind_some]
  have h3 := tarryref01_Row.r1_eq k l (by omega) k 0 (numS (l.length : Int)) (by omega) (Nat.zero_le _)
  rw [List.drop_zero, rowRef_r1 k (by omega) l l _ h.2 z] at h3
  exact h3
theorem ref_count_tells (k : Nat) (hk : 20 ≤ k) (s : ByteArray) (hs : s.size ≤ 140737488351232) (m : Int) : tarryref01_count.f k s m = some (cnt s m) := by
  unfold tarryref01_count.f cnt cntOf
  rw [ref_read_tells k hk s hs, Option.bind_some]
  have he := rdGo_err s 9 0
  generalize rdGo s 9 0 = q at he ⊢
  obtain ⟨q1, q2, q3⟩ := q
  simp only
  split
  · rename_i h3
    split
    · rfl
    · split
      · rfl
      · rw [h3]
  · rename_i h3
    obtain ⟨rfl, rfl⟩ := he q1 q2 q3 rfl h3
    rfl
theorem refRow_l1 (kk : Nat) (hk : 20 ≤ kk) (t : Nat) (d : Nat) : ∀ (m i : Nat) (s : ByteArray) (acc : List ByteArray) (x : Int) (y : ByteArray) (z : Int), i + d = t → d < m → s.size ≤ 140737488351232 → acc.length + d ≤ 256 → t ≤ 256 →
    tarryref01_ReadRow.l1 kk (t : Int) m s acc (i : Int) x y z = some (rrGo d s acc) := by
  induction d with
  | zero =>
    intro m i s acc x y z hi hm hs ha ht
    obtain ⟨m, rfl⟩ : ∃ q, m = q + 1 := ⟨m - 1, by omega⟩
    rw [tarryref01_ReadRow.l1, if_neg (by omega), rrGo]
    by_cases h : s = ⟨#[]⟩
    · subst h
      rfl
    · have h0 : s.size ≠ 0 := fun h1 => h (size_zero h1)
      rw [if_neg h]
      exact if_pos (by omega)
  | succ d ih =>
    intro m i s acc x y z hi hm hs ha ht
    obtain ⟨m, rfl⟩ : ∃ q, m = q + 1 := ⟨m - 1, by omega⟩
    have c1 : (i : Int) < (t : Int) := by omega
    rw [tarryref01_ReadRow.l1, if_pos c1, ref_count_tells kk hk s hs, Option.bind_some, rrGo]
    have hsub := cnt_sub (s := s) (m := 4096)
    generalize cnt s 4096 = q at hsub ⊢
    obtain ⟨q1, q2, q3⟩ := q
    simp only at hsub ⊢
    by_cases h3 : q3 = 0
    · obtain ⟨h4, h5, h6⟩ := hsub h3
      rw [if_pos h3, if_pos h3]
      by_cases h7 : q1 > (q2.size : Int)
      · rw [if_pos h7, if_pos h7]
      · have hl : (acc.length + ([q2.extract 0 q1.toNat] : List ByteArray).length) * 16 ≤ 140737488355328 := by simp only [List.length_cons, List.length_nil]; omega
        have hx : (q2.extract q1.toNat q2.size).size ≤ 140737488351232 := by rw [ext_size _ _ _ (Nat.le_refl _)]; omega
        have h9 : (acc ++ [q2.extract 0 q1.toNat]).length + d ≤ 256 := by
          rw [List.length_append, List.length_cons, List.length_nil]
          omega
        have h10 : q1 ≤ (q2.size : Int) := by omega
        have h11 : i + 1 + d = t := by omega
        have h12 : d < m := by omega
        have e1 : wrap64 ((i : Int) + 1) = ((i + 1 : Nat) : Int) := (wrap64_id (by omega) (by omega)).trans (by rfl)
        rw [if_neg h7, if_neg h7, if_pos h4, if_pos h10, if_pos hl, e1]
        exact ih m (i + 1) _ _ _ _ _ h11 h12 hx h9 ht
    · rw [if_neg h3, if_neg h3]
theorem refRow_tells (k : Nat) (hk : 300 ≤ k) (s : ByteArray) (hs : s.size ≤ 140737488351232) : tarryref01_ReadRow.f k s = some (readRow s) := by
  unfold tarryref01_ReadRow.f readRow
  rw [ref_count_tells k (by omega) s hs, Option.bind_some]
  have hsub := cnt_sub (s := s) (m := 256)
  generalize cnt s 256 = q at hsub ⊢
  obtain ⟨q1, q2, q3⟩ := q
  simp only at hsub ⊢
  by_cases h3 : q3 = 0
  · obtain ⟨h4, h5, h6⟩ := hsub h3
    rw [if_pos h3, if_pos h3]
    obtain ⟨n, rfl⟩ := Int.eq_ofNat_of_zero_le h4
    exact refRow_l1 k (by omega) n n k 0 q2 [] _ _ _ (by omega) (by omega) (by omega) (by simp only [List.length_nil]; omega) (by omega)
  · rw [if_neg h3, if_neg h3]
theorem readRow_len {s : ByteArray} : (readRow s).1.length ≤ 256 := by
  by_cases he : (readRow s).2 = 0
  · exact (readRow_inv (s := s) (l := (readRow s).1) (by rw [← he])).1.1
  · rw [readRow_err (s := s) (l := (readRow s).1) (e := (readRow s).2) rfl he]
    exact Nat.zero_le _
theorem PackRows : tarrylaw01_PackRows.Pure := by
  intro l0 a1 hl ha1
  refine ⟨1000, ?_⟩
  have e : mn (a1.size : Int) 10000 = ((min a1.size 10000 : Nat) : Int) := mn_nat a1.size 10000
  unfold tarrylaw01_PackRows.f
  rw [few_tells 1000 (by decide), Option.bind_some]
  have hfl := few_len l0
  generalize fewS l0 = l at hfl ⊢
  rw [e, if_pos (by omega), if_pos (by omega), Int.toNat_natCast]
  have hs : (a1.extract 0 (min a1.size 10000)).size ≤ 10000 := by rw [ext_size _ _ _ (Nat.min_le_left _ _)]; omega
  generalize a1.extract 0 (min a1.size 10000) = s at hs ⊢
  have hs2 : s.size ≤ 140737488351232 := by omega
  have hrl := readRow_len (s := s)
  rw [row_tells 1000 (by decide), Option.bind_some, readRow_tells 1000 (by decide) s hs2, refRow_tells 1000 (by decide) s hs2, mayRow_tells 1000 l (by omega) (by omega), alive1]
  simp only [Option.bind_some]
  rw [same_self 1000 (readRow s).1 (by omega) (by omega), Option.bind_some]
  rw [if_pos trivial, if_pos trivial]
  by_cases h : okRow l
  · rw [if_pos h, decide_eq_true h, rowRef_tells 1000 (by decide) h]
    refine (if_pos rfl).trans ((if_pos rfl).trans ?_)
    rw [Option.bind_some, beq_is, decide_eq_true rfl]
    exact if_pos rfl
  · rw [if_neg h, decide_eq_false h]
    refine (if_pos rfl).trans ((if_neg (by decide)).trans ((if_pos rfl).trans ?_))
    rfl
end Go.Proofs.Ytacenfolbmdpoaa.Pure
