/- FrameHurt: a burst of 32 bits in one record's own bytes ends the scan ahead of it, at every input; no further condition; no further condition. -/
import Derived.Test.YtaolaicmfjdmhaaRFrameHurt
namespace Go.Proofs.Ytaolaicmfjdmhaa.Pure
open Go Go.RowKit Go.Proofs.Ytaolaicmfjdmhaa.PFrameHurt Go.Proofs.YtaolaicmfjdmhaaV 
set_option linter.unusedSimpArgs false
set_option linter.unusedVariables false
theorem take_drop0 {α : Type} (l : List α) (i : Nat) : (l.take i).drop 0 = l.take i := rfl
theorem w64n {n : Int} (h1 : -9000000000000000000 ≤ n) (h2 : n ≤ 9000000000000000000) : wrap64 n = n := by unfold wrap64; omega
/-- A binary search's middle. -/
theorem mid_is {i j : Nat} (hi : i ≤ 1000000) (hj : j ≤ 1000000) : wrap64 ((IntKind.u64.wrap (wrap64 ((i : Int) + (j : Int)))).fdiv (2 ^ min (1 : Int).toNat IntKind.u64.bits)) = (((i + j) / 2 : Nat) : Int) := by
  have e1 : wrap64 ((i : Int) + (j : Int)) = ((i + j : Nat) : Int) := by unfold wrap64; omega
  have e2 : IntKind.u64.wrap ((i + j : Nat) : Int) = ((i + j : Nat) : Int) := by
    have h : IntKind.u64.wrap ((i + j : Nat) : Int) = ((i + j : Nat) : Int) % 18446744073709551616 := rfl
    rw [h]
    omega
  have e3 : (2 : Int) ^ min (1 : Int).toNat IntKind.u64.bits = 2 := by decide
  rw [e1, e2, e3, Int.fdiv_eq_ediv_of_nonneg _ (by decide)]
  unfold wrap64
  omega
/-- The things ahead of the first one that is not so. -/
theorem tw_len_le {α : Type} (p : α → Bool) (l : List α) : (l.takeWhile p).length ≤ l.length := by
  induction l with
  | nil => simp
  | cons x xs ih => rw [List.takeWhile_cons]; split <;> simp <;> omega
theorem tw_lt {α : Type} (p : α → Bool) : ∀ (l : List α) (i : Nat) (x : α), l[i]? = some x → i < (l.takeWhile p).length → p x = true
  | [], i, x, h, _ => by simp at h
  | y :: l, 0, x, h, hi => by
    simp only [List.getElem?_cons_zero, Option.some.injEq] at h
    subst h
    rw [List.takeWhile_cons] at hi
    by_cases hp : p y = true
    · exact hp
    · rw [if_neg hp] at hi; simp at hi
  | y :: l, i + 1, x, h, hi => by
    simp only [List.getElem?_cons_succ] at h
    rw [List.takeWhile_cons] at hi
    split at hi
    · exact tw_lt p l i x h (by simpa using hi)
    · simp at hi
theorem tw_at {α : Type} (p : α → Bool) : ∀ (l : List α) (x : α), l[(l.takeWhile p).length]? = some x → p x = false
  | [], x, h => by simp at h
  | y :: l, x, h => by
    rw [List.takeWhile_cons] at h
    by_cases hp : p y = true
    · rw [if_pos hp] at h
      simp only [List.length_cons, List.getElem?_cons_succ] at h
      exact tw_at p l x h
    · rw [if_neg hp] at h
      simp only [List.length_nil, List.getElem?_cons_zero, Option.some.injEq] at h
      subst h
      simpa using hp
/-- Where what is so stands ahead of what is not. -/
def Downs {α : Type} (p : α → Bool) (l : List α) : Prop := ∀ (i j : Nat) (x y : α), i < j → l[i]? = some x → l[j]? = some y → p y = true → p x = true
theorem tw_ge {α : Type} {p : α → Bool} {l : List α} (h : Downs p l) {i : Nat} {x : α} (hx : l[i]? = some x) (hi : (l.takeWhile p).length ≤ i) : p x = false := by
  have hl := (List.getElem?_eq_some_iff.1 hx).1
  obtain ⟨y, hn⟩ : ∃ y, l[(l.takeWhile p).length]? = some y := ⟨_, List.getElem?_eq_getElem (by omega)⟩
  have h0 := tw_at p l _ hn
  rcases Nat.lt_or_eq_of_le hi with h1 | h1
  · cases hp : p x with
    | false => rfl
    | true => rw [h _ _ _ _ h1 hn hx hp] at h0; cases h0
  · rw [h1, hx] at hn
    obtain rfl := Option.some.inj hn
    exact h0
theorem take_tw {α : Type} (p : α → Bool) (l : List α) : l.take (l.takeWhile p).length = l.takeWhile p := by
  induction l with
  | nil => rfl
  | cons x xs ih => rw [List.takeWhile_cons]; split <;> simp [ih]
theorem drop_tw {α : Type} (p : α → Bool) (l : List α) : l.drop (l.takeWhile p).length = l.dropWhile p := by
  induction l with
  | nil => rfl
  | cons x xs ih => rw [List.takeWhile_cons, List.dropWhile_cons]; split <;> simp [ih]
theorem pw_get {α : Type} {R : α → α → Prop} {l : List α} (h : l.Pairwise R) {i j : Nat} {x y : α} (hij : i < j) (hx : l[i]? = some x) (hy : l[j]? = some y) : R x y := by
  obtain ⟨h1, rfl⟩ := List.getElem?_eq_some_iff.1 hx
  obtain ⟨h2, rfl⟩ := List.getElem?_eq_some_iff.1 hy
  exact List.pairwise_iff_getElem.1 h i j h1 h2 hij
theorem pw_of_get {α : Type} {R : α → α → Prop} {l : List α} (h : ∀ (i j : Nat) (x y : α), i < j → l[i]? = some x → l[j]? = some y → R x y) : l.Pairwise R :=
  List.pairwise_iff_getElem.2 fun i j h1 h2 hij => h i j _ _ hij (List.getElem?_eq_getElem h1) (List.getElem?_eq_getElem h2)
theorem drop_cons_is {α : Type} {l : List α} {i : Nat} {x : α} {xs : List α} (h : l.drop i = x :: xs) : i < l.length ∧ l[i]? = some x ∧ l.drop (i + 1) = xs := by
  have h1 : i < l.length := by have := congrArg List.length h; simp at this; omega
  rw [List.drop_eq_getElem_cons h1] at h
  obtain ⟨h2, h3⟩ := List.cons.inj h
  exact ⟨h1, by rw [List.getElem?_eq_getElem h1, h2], h3⟩
theorem drop_nil_is {α : Type} {l : List α} {i : Nat} (h : l.drop i = []) : l.length ≤ i := by have := congrArg List.length h; simp at this; omega
theorem filter_split {α : Type} (p : α → Bool) (l : List α) : (l.filter p).length + (l.filter (fun x => !p x)).length = l.length := by
  induction l with
  | nil => rfl
  | cons x xs ih => by_cases h : p x = true <;> simp [List.filter_cons, h] <;> omega
theorem mem_tw_dw {α : Type} (p : α → Bool) (l : List α) (y : α) : (y ∈ l.takeWhile p ∨ y ∈ l.dropWhile p) ↔ y ∈ l := by
  rw [← List.mem_append, List.takeWhile_append_dropWhile]
theorem mem_tw {α : Type} {p : α → Bool} {l : List α} {y : α} (h : y ∈ l.takeWhile p) : p y = true := by
  obtain ⟨i, hi⟩ := List.getElem?_of_mem h
  have hlt := (List.getElem?_eq_some_iff.1 hi).1
  rw [← take_tw, List.getElem?_take, if_pos hlt] at hi
  exact tw_lt p l i y hi hlt
theorem mem_dw {α : Type} {p : α → Bool} {l : List α} (hd : Downs p l) {y : α} (h : y ∈ l.dropWhile p) : p y = false := by
  obtain ⟨i, hi⟩ := List.getElem?_of_mem h
  rw [← drop_tw, List.getElem?_drop] at hi
  exact tw_ge hd hi (by omega)
/-- Two rows that rise, of the same things, are the same row. -/
theorem eq_of_rise {α : Type} {R : α → α → Prop} (irr : ∀ a b, R a b → ¬ R b a) : ∀ (l l' : List α), l.Pairwise R → l'.Pairwise R → (∀ x, x ∈ l ↔ x ∈ l') → l = l'
  | [], [], _, _, _ => rfl
  | [], b :: l', _, _, h => by have := (h b).2 (by simp); cases this
  | a :: l, [], _, _, h => by have := (h a).1 (by simp); cases this
  | a :: l, b :: l', h1, h2, h => by
    rw [List.pairwise_cons] at h1 h2
    have hab : a = b := by
      rcases List.mem_cons.1 ((h a).1 (by simp)) with e | e
      · exact e
      rcases List.mem_cons.1 ((h b).2 (by simp)) with e2 | e2
      · exact e2.symm
      exact absurd (h1.1 b e2) (irr _ _ (h2.1 a e))
    subst hab
    have hna : ∀ x, R x x → False := fun x hx => irr x x hx hx
    rw [eq_of_rise irr l l' h1.2 h2.2 fun x => ⟨fun hx => ?_, fun hx => ?_⟩]
    · rcases List.mem_cons.1 ((h x).1 (by simp [hx])) with e | e
      · subst e; exact absurd (h1.1 _ hx) (hna _)
      · exact e
    · rcases List.mem_cons.1 ((h x).2 (by simp [hx])) with e | e
      · subst e; exact absurd (h2.1 _ hx) (hna _)
      · exact e
theorem filter_tw {α : Type} {p : α → Bool} : ∀ {l : List α}, Downs p l → l.filter p = l.takeWhile p
  | [], _ => rfl
  | x :: xs, h => by
    by_cases hx : p x = true
    · rw [List.filter_cons, if_pos hx, List.takeWhile_cons, if_pos hx, filter_tw (l := xs) fun i j a b hij ha hb hp => h (i + 1) (j + 1) a b (by omega) (by simpa using ha) (by simpa using hb) hp]
    · rw [List.takeWhile_cons, if_neg hx, List.filter_eq_nil_iff]
      intro y hy hp
      obtain ⟨j, hj⟩ := List.getElem?_of_mem hy
      cases j with
      | zero => simp at hj; subst hj; exact hx hp
      | succ j => exact hx (h 0 (j + 1) x y (by omega) rfl hj hp)
theorem tw_mono {α : Type} {p q : α → Bool} (h : ∀ x, p x = true → q x = true) (l : List α) : (l.takeWhile p).length ≤ (l.takeWhile q).length := by
  induction l with
  | nil => simp
  | cons x xs ih =>
    rw [List.takeWhile_cons, List.takeWhile_cons]
    by_cases hx : p x = true
    · rw [if_pos hx, if_pos (h x hx)]; simp; omega
    · rw [if_neg hx]; simp
theorem pw_of_adj {α : Type} {R : α → α → Prop} (tr : ∀ {a b c}, R a b → R b c → R a c) {l : List α} (h : ∀ (i : Nat) (x y : α), l[i]? = some x → l[i + 1]? = some y → R x y) : l.Pairwise R := by
  have hall : ∀ (d i : Nat) (x y : α), l[i]? = some x → l[i + 1 + d]? = some y → R x y := by
    intro d
    induction d with
    | zero => intro i x y hx hy; exact h i x y hx hy
    | succ d ih =>
      intro i x y hx hy
      have hlt := (List.getElem?_eq_some_iff.1 hy).1
      have hz : l[i + 1 + d]? = some l[i + 1 + d] := List.getElem?_eq_getElem (by omega)
      exact tr (ih i x _ hx hz) (h (i + 1 + d) _ y hz hy)
  exact pw_of_get fun i j x y hij hx hy => hall (j - i - 1) i x y hx (by rw [show i + 1 + (j - i - 1) = j by omega]; exact hy)
/-! ### texts as rows of numbers -/
def okB (l : List Int) : Prop := ∀ x ∈ l, 0 ≤ x ∧ x < 256
theorem okB_byI (s : ByteArray) : okB (byI s) := by
  intro x hx
  obtain ⟨b, _, rfl⟩ := List.mem_map.1 hx
  have := UInt8.toNat_lt b
  omega
theorem byI_inj {a b : ByteArray} (h : byI a = byI b) : a = b := by
  have h2 : a.data.toList = b.data.toList := by
    unfold byI at h
    have : ∀ (l m : List UInt8), l.map (fun b => (b.toNat : Int)) = m.map (fun b => (b.toNat : Int)) → l = m := by
      intro l
      induction l with
      | nil => intro m h; cases m with | nil => rfl | cons => simp at h
      | cons x xs ih =>
        intro m h
        cases m with
        | nil => simp at h
        | cons y ys =>
          simp only [List.map_cons, List.cons.injEq] at h
          rw [ih ys h.2, UInt8.toNat_inj.1 (by omega : x.toNat = y.toNat)]
    exact this _ _ h
  cases a with
  | mk a =>
    cases b with
    | mk b => simp only at h2; rw [Array.toList_inj.1 h2]
theorem byI_num {l : List Int} (h : okB l) : byI (strOfNums l) = l := by
  unfold byI strOfNums
  simp only [List.map_map]
  conv => rhs; rw [← List.map_id l]
  refine List.map_congr_left fun x hx => ?_
  have := h x hx
  simp only [Function.comp, id]
  rw [UInt8.toNat_ofNat']
  omega
theorem num_byI (s : ByteArray) : strOfNums (byI s) = s := byI_inj (byI_num (okB_byI s))
theorem byI_app (a b : ByteArray) : byI (a ++ b) = byI a ++ byI b := by
  unfold byI
  rw [ByteArray.data_append, Array.toList_append, List.map_append]
theorem byI_ext (s : ByteArray) (i j : Nat) : byI (s.extract i j) = ((byI s).take j).drop i := by
  unfold byI
  rw [ByteArray.data_extract, Array.toList_extract, ← List.map_take, ← List.map_drop]
  congr 1
  rw [List.extract_eq_take_drop, List.drop_take]
theorem byI_nil : byI (⟨#[]⟩ : ByteArray) = [] := rfl
theorem size_byI (s : ByteArray) : s.size = (byI s).length := (byI_len s).symm
theorem num_size {l : List Int} : (strOfNums l).size = l.length := by
  rw [size_byI]; unfold byI strOfNums; simp
theorem bt_get {s : ByteArray} {i : Nat} (h : i < s.size) : (byI s)[i]? = some (bt s i) := by
  unfold byI bt
  rw [List.getElem?_map, Array.getElem?_toList, Int.toNat_natCast, dif_pos h]
  have : s.data[i]? = some s.data[i] := Array.getElem?_eq_getElem h
  rw [this]
  rfl
theorem bt_of {s : ByteArray} {i : Nat} {x : Int} (h : (byI s)[i]? = some x) : bt s i = x := by
  have := (List.getElem?_eq_some_iff.1 h).1
  rw [bt_get (by rw [size_byI]; exact this)] at h
  exact Option.some.inj h
theorem app_size (a b : ByteArray) : (a ++ b).size = a.size + b.size := ByteArray.size_append
theorem ext_size (s : ByteArray) (i j : Nat) (h : j ≤ s.size) : (s.extract i j).size = j - i := by rw [ByteArray.size_extract]; omega
theorem ext_left (a b : ByteArray) : (a ++ b).extract 0 a.size = a := by
  apply byI_inj
  rw [byI_ext, byI_app, List.drop_zero, size_byI, List.take_left]
theorem ext_right (a b : ByteArray) : (a ++ b).extract a.size (a ++ b).size = b := by
  apply byI_inj
  rw [byI_ext, byI_app, app_size, size_byI a, size_byI b, ← List.length_append, List.take_length, List.drop_left]
theorem ext_split (s : ByteArray) (i : Nat) (h : i ≤ s.size) : s.extract 0 i ++ s.extract i s.size = s := by
  apply byI_inj
  rw [byI_app, byI_ext, byI_ext, List.drop_zero, size_byI s, List.take_length, List.take_append_drop]
theorem app_assoc (a b c : ByteArray) : a ++ b ++ c = a ++ (b ++ c) := by
  apply byI_inj
  rw [byI_app, byI_app, byI_app, byI_app, List.append_assoc]
theorem app_inj {a b c d : ByteArray} (h : a ++ b = c ++ d) (hs : a.size = c.size) : a = c ∧ b = d := by
  have h2 := congrArg byI h
  rw [byI_app, byI_app] at h2
  obtain ⟨h3, h4⟩ := List.append_inj h2 (by rw [← size_byI, ← size_byI, hs])
  exact ⟨byI_inj h3, byI_inj h4⟩
theorem app_nil (a : ByteArray) : a ++ (⟨#[]⟩ : ByteArray) = a := by
  apply byI_inj
  rw [byI_app, byI_nil, List.append_nil]
theorem nil_app (a : ByteArray) : (⟨#[]⟩ : ByteArray) ++ a = a := by
  apply byI_inj
  rw [byI_app, byI_nil, List.nil_append]
theorem size_zero {a : ByteArray} (h : a.size = 0) : a = ⟨#[]⟩ := by
  apply byI_inj
  rw [size_byI] at h
  rw [List.eq_nil_of_length_eq_zero h, byI_nil]
theorem ba_toList_loop (a : ByteArray) : ∀ (d i : Nat) (r : List UInt8), a.size - i = d → ByteArray.toList.loop a i r = r.reverse ++ a.data.toList.drop i := by
  intro d
  induction d with
  | zero =>
    intro i r h
    unfold ByteArray.toList.loop
    have h1 : ¬ i < a.size := by omega
    rw [if_neg h1, List.drop_eq_nil_of_le (by show a.data.toList.length ≤ i; rw [Array.length_toList]; exact Nat.le_of_not_lt h1), List.append_nil]
  | succ d ih =>
    intro i r h
    unfold ByteArray.toList.loop
    have h1 : i < a.size := by omega
    have h2 : i < a.data.toList.length := by rw [Array.length_toList]; exact h1
    rw [if_pos h1, ih (i + 1) _ (by omega), List.reverse_cons, List.append_assoc, List.drop_eq_getElem_cons h2]
    have h3 : a.get! i = a.data.toList[i] := by
      show a.data[i]! = _
      rw [getElem!_pos a.data i h1]
      rfl
    rw [h3]
    rfl
theorem ba_toList (a : ByteArray) : a.toList = a.data.toList := by
  unfold ByteArray.toList
  rw [ba_toList_loop a a.size 0 [] (by omega)]
  rfl
theorem beq_is (a b : ByteArray) : (a == b) = decide (a = b) := by
  rw [beq_toListBytes, ba_toList, ba_toList, Bool.eq_iff_iff, beq_iff_eq, decide_eq_true_eq]
  refine ⟨fun h => ?_, fun h => by rw [h]⟩
  cases a with
  | mk a =>
    cases b with
    | mk b => simpa using h
theorem bt_range (s : ByteArray) (i : Int) : 0 ≤ bt s i ∧ bt s i < 256 := by
  unfold bt
  split
  · rename_i h
    have := UInt8.toNat_lt (s[i.toNat]'h)
    omega
  · omega
theorem wf64 {a : Int} (h : (Lit.int .i64 a).wf = true) : -9223372036854775808 ≤ a ∧ a ≤ 9223372036854775807 := by
  simpa [Lit.wf, IntKind.min, IntKind.max, IntKind.signed, IntKind.bits] using h
theorem wrap64_id {a : Int} (h : -9223372036854775808 ≤ a) (h' : a ≤ 9223372036854775807) : wrap64 a = a := by
  unfold wrap64
  omega
theorem may_tells (a : Int) : pack_may.f a = some (decide (-1152921504606846976 ≤ a ∧ a ≤ 1152921504606846976)) := by
  unfold pack_may.f
  split <;> simp <;> omega
def digs : Nat → Int → List Int
  | 0, x => [x]
  | n + 1, x => if x ≥ 128 then (x % 128 + 128) :: digs n (x / 128) else [x]

theorem w8 {n : Int} (h : 0 ≤ n) (h2 : n < 256) : IntKind.u8.wrap n = n := by rw [IntKind.wrap_u8]; omega
theorem number_l1 (kk n : Nat) : ∀ (k : Nat) (x : Int) (acc : List Int), 0 ≤ x → x < 128 * 128 ^ n → x ≤ 9223372036854775807 → acc.length + n ≤ 100 →
    pack_Number.l1 kk (k + n + 1) x acc = some (strOfNums (acc ++ digs n x), 0) := by
  induction n with
  | zero =>
    intro k x acc h0 h1 h2 h3
    have h1' : x < 128 := by simpa using h1
    rw [pack_Number.l1, if_neg (by omega), if_pos (by simp; omega), w8 h0 (by omega)]
    rfl
  | succ n ih =>
    intro k x acc h0 h1 h2 h3
    rw [show k + (n + 1) + 1 = (k + n + 1) + 1 by omega, pack_Number.l1]
    by_cases h : x ≥ 128
    · have t1 : Int.tmod x 128 = x % 128 := Int.tmod_eq_emod_of_nonneg h0
      have t2 : Int.tdiv x 128 = x / 128 := Int.tdiv_eq_ediv_of_nonneg h0
      have t3 : IntKind.i64.wrap (x / 128) = x / 128 := (i64w _).trans (wrap64_id (by omega) (by omega))
      have t4 : IntKind.u8.wrap (wrap64 (x % 128 + 128)) = x % 128 + 128 := by rw [wrap64_id (by omega) (by omega), w8 (by omega) (by omega)]
      have hp : (128 : Int) ^ (n + 1) = 128 ^ n * 128 := Int.pow_succ ..
      have hn := ih k (x / 128) (acc ++ [x % 128 + 128]) (by omega) (by omega) (by omega) (by simp; omega)
      rw [if_pos h, if_pos (by simp; omega), t1, t2, t3, t4, hn, digs, if_pos h, List.append_assoc]
      rfl
    · rw [if_neg h, if_pos (by simp; omega), digs, if_neg h, w8 h0 (by omega)]
theorem number_l3 (kk n : Nat) : ∀ (k : Nat) (x : Int) (acc : List Int), 0 ≤ x → x < 128 * 128 ^ n → x ≤ 9223372036854775807 → acc.length + n ≤ 100 →
    pack_Number.l3 kk (k + n + 1) x acc = some (strOfNums (acc ++ digs n x), 0) := by
  induction n with
  | zero =>
    intro k x acc h0 h1 h2 h3
    have h1' : x < 128 := by simpa using h1
    rw [pack_Number.l3, if_neg (by omega), if_pos (by simp; omega), w8 h0 (by omega)]
    rfl
  | succ n ih =>
    intro k x acc h0 h1 h2 h3
    rw [show k + (n + 1) + 1 = (k + n + 1) + 1 by omega, pack_Number.l3]
    by_cases h : x ≥ 128
    · have t1 : Int.tmod x 128 = x % 128 := Int.tmod_eq_emod_of_nonneg h0
      have t2 : Int.tdiv x 128 = x / 128 := Int.tdiv_eq_ediv_of_nonneg h0
      have t3 : IntKind.i64.wrap (x / 128) = x / 128 := (i64w _).trans (wrap64_id (by omega) (by omega))
      have t4 : IntKind.u8.wrap (wrap64 (x % 128 + 128)) = x % 128 + 128 := by rw [wrap64_id (by omega) (by omega), w8 (by omega) (by omega)]
      have hp : (128 : Int) ^ (n + 1) = 128 ^ n * 128 := Int.pow_succ ..
      have hn := ih k (x / 128) (acc ++ [x % 128 + 128]) (by omega) (by omega) (by omega) (by simp; omega)
      rw [if_pos h, if_pos (by simp; omega), t1, t2, t3, t4, hn, digs, if_pos h, List.append_assoc]
      rfl
    · rw [if_neg h, if_pos (by simp; omega), digs, if_neg h, w8 h0 (by omega)]
def zig (a : Int) : Int := if a < 0 then -2 * a - 1 else 2 * a

theorem number_tells (k : Nat) (hk : 11 ≤ k) (a : Int) : pack_Number.f k a =
    some (if -1152921504606846976 ≤ a ∧ a ≤ 1152921504606846976 then (strOfNums (digs 8 (zig a)), 0) else ((⟨#[]⟩ : ByteArray), 1)) := by
  obtain ⟨k, rfl⟩ : ∃ q, k = q + 11 := ⟨k - 11, by omega⟩
  simp only [pack_Number.f, may_tells, Option.bind_some, decide_eq_true_eq]
  by_cases h : -1152921504606846976 ≤ a ∧ a ≤ 1152921504606846976
  · rw [if_pos h, if_pos h]
    have hz : 0 ≤ zig a ∧ zig a ≤ 2305843009213693952 := by unfold zig; split <;> omega
    by_cases h0 : a < 0
    · have e : wrap64 (wrap64 (-2 * a) - 1) = zig a := by rw [wrap64_id (a := -2 * a) (by omega) (by omega), wrap64_id (by omega) (by omega)]; unfold zig; rw [if_pos h0]
      have hl := number_l1 (k + 11) 8 (k + 2) (zig a) [] hz.1 (by omega) (by omega) (by simp)
      rw [if_pos h0, e]
      exact hl
    · have e : wrap64 (2 * a) = zig a := by rw [wrap64_id (by omega) (by omega)]; unfold zig; rw [if_neg h0]
      have hl := number_l3 (k + 11) 8 (k + 2) (zig a) [] hz.1 (by omega) (by omega) (by simp)
      rw [if_neg h0, e]
      exact hl
  · rw [if_neg h, if_neg h]
def rdv (s : ByteArray) : Nat → Int
  | 0 => 0
  | i + 1 => rdv s i + bt s i % 128 * 128 ^ i
def zag (x : Int) : Int := if x % 2 = 1 then -(x / 2) - 1 else x / 2
def rdFin (s : ByteArray) (i : Nat) : Int × ByteArray × Int :=
  if (bt s i = 0 ∧ 0 < i) ∨ ¬ (-1152921504606846976 ≤ zag (rdv s (i + 1)) ∧ zag (rdv s (i + 1)) ≤ 1152921504606846976) then (0, ⟨#[]⟩, 5) else (zag (rdv s (i + 1)), s.extract (i + 1) s.size, 0)
def rdGo (s : ByteArray) : Nat → Nat → Int × ByteArray × Int
  | 0, _ => if s.size ≥ 9 then (0, ⟨#[]⟩, 3) else (0, ⟨#[]⟩, 4)
  | f + 1, i => if i < s.size then (if bt s i ≥ 128 then rdGo s f (i + 1) else rdFin s i) else (if s.size ≥ 9 then (0, ⟨#[]⟩, 3) else (0, ⟨#[]⟩, 4))

theorem rdv_range (s : ByteArray) : ∀ i, 0 ≤ rdv s i ∧ rdv s i < 128 ^ i
  | 0 => by simp [rdv]
  | i + 1 => by
    have h := rdv_range s i
    have hp : (128 : Int) ^ (i + 1) = 128 * 128 ^ i := by rw [Int.pow_succ, Int.mul_comm]
    have hb := bt_range s i
    have h1 : 0 ≤ bt s i % 128 * 128 ^ i := Int.mul_nonneg (by omega) (by omega)
    have h2 : bt s i % 128 * 128 ^ i ≤ 127 * 128 ^ i := Int.mul_le_mul_of_nonneg_right (by omega) (by omega)
    rw [rdv, hp]
    omega
theorem pow128_le {i j : Nat} (h : i ≤ j) : (128 : Int) ^ i ≤ 128 ^ j := by
  obtain ⟨d, rfl⟩ := Nat.le.dest h
  induction d with
  | zero => exact Int.le_refl _
  | succ d ih =>
    have := ih (by omega)
    have hp : (128 : Int) ^ (i + (d + 1)) = 128 ^ (i + d) * 128 := Int.pow_succ ..
    have h0 : (0 : Int) < 128 ^ (i + d) := Int.pow_pos (by decide)
    omega
theorem rdv_small (s : ByteArray) (i : Nat) (h : i ≤ 9) : 0 ≤ rdv s i ∧ rdv s i ≤ 9223372036854775807 := by
  have h1 := rdv_range s i
  have h2 := pow128_le h
  have : (128 : Int) ^ 9 = 9223372036854775808 := by decide +kernel
  omega

theorem or_add (x c : Int) (i : Nat) (hi : i ≤ 8) (hx : 0 ≤ x) (hx2 : x < 128 ^ i) (hc : 0 ≤ c) (hc2 : c < 128) :
    Go.bits .or .i64 x (IntKind.i64.wrap (c * 2 ^ min (wrap64 (7 * (i : Int))).toNat IntKind.i64.bits)) = x + c * 128 ^ i := by
  have e1 : wrap64 (7 * (i : Int)) = 7 * i := wrap64_id (by omega) (by omega)
  have e2 : (7 * (i : Int)).toNat = 7 * i := by omega
  have e3 : (2 : Int) ^ (7 * i) = 128 ^ i := by rw [Int.pow_mul]; rfl
  have hp := pow128_le hi
  have h8 : (128 : Int) ^ 8 = 72057594037927936 := by decide +kernel
  have h0 : (0 : Int) < 128 ^ i := Int.pow_pos (by decide)
  have hcc : c * 128 ^ i ≤ 127 * 128 ^ i := Int.mul_le_mul_of_nonneg_right (by omega) (by omega)
  have hcn : 0 ≤ c * 128 ^ i := Int.mul_nonneg hc (by omega)
  have e4 : IntKind.i64.wrap (c * 2 ^ min (wrap64 (7 * (i : Int))).toNat IntKind.i64.bits) = c * 128 ^ i := by
    rw [e1, e2, show min (7 * i) IntKind.i64.bits = 7 * i from Nat.min_eq_left (by show 7 * i ≤ 64; omega), e3, IntKind.wrap_i64]
    omega
  rw [e4]
  obtain ⟨a, rfl⟩ := Int.eq_ofNat_of_zero_le hx
  obtain ⟨d, rfl⟩ := Int.eq_ofNat_of_zero_le hc
  have ha : a < 128 ^ i := by exact_mod_cast hx2
  have hq : ((d : Int) * 128 ^ i) = ((2 ^ (7 * i) * d : Nat) : Int) := by
    rw [Int.natCast_mul, Int.mul_comm]
    congr 1
    rw [← e3]
    exact (Int.natCast_pow 2 (7 * i)).symm
  have h128 : (128 : Nat) ^ i = 2 ^ (7 * i) := by rw [Nat.pow_mul]
  rw [hq]
  have ha2 : a < 2 ^ 63 := by omega
  have hd2 : 2 ^ (7 * i) * d < 2 ^ 63 := by omega
  rw [(bits_nat .i64 63 (by decide) (by intro n h h'; rw [IntKind.wrap_i64]; omega) a _ ha2 hd2).2, Nat.or_comm, ← Nat.two_pow_add_eq_or_of_lt (by rw [← h128]; exact ha) d]
  omega

theorem fin_odd (x : Int) (hx : 0 ≤ x) (hx2 : x ≤ 9223372036854775807) (h : Int.tmod x 2 = 1) : wrap64 ((wrap64 (0 - (IntKind.i64.wrap (Int.tdiv x 2)))) - 1) = zag x := by
  rw [Int.tmod_eq_emod_of_nonneg hx] at h
  rw [i64w, Int.tdiv_eq_ediv_of_nonneg hx, wrap64_id (a := x / 2) (by omega) (by omega), wrap64_id (a := 0 - (x / 2)) (by omega) (by omega), wrap64_id (a := 0 - (x / 2) - 1) (by omega) (by omega)]
  unfold zag
  rw [if_pos h]
  omega
theorem fin_even (x : Int) (hx : 0 ≤ x) (hx2 : x ≤ 9223372036854775807) (h : ¬ Int.tmod x 2 = 1) : IntKind.i64.wrap (Int.tdiv x 2) = zag x := by
  rw [Int.tmod_eq_emod_of_nonneg hx] at h
  rw [i64w, Int.tdiv_eq_ediv_of_nonneg hx, wrap64_id (a := x / 2) (by omega) (by omega)]
  unfold zag
  rw [if_neg h]
theorem read_j5 (k : Nat) (s : ByteArray) (i : Nat) (n : Int) (q : Bool) (hi : i < s.size) (h9 : i ≤ 8) : pack_ReadNumber.j5 k s (i : Int) n q
    = some (if (bt s i = 0 ∧ 0 < i) ∨ ¬ (-1152921504606846976 ≤ n ∧ n ≤ 1152921504606846976) then (0, ⟨#[]⟩, 5) else (n, s.extract (i + 1) s.size, 0)) := by
  have hb := bt_range s i
  have e : wrap64 ((i : Int) + 1) = ((i + 1 : Nat) : Int) := by rw [wrap64_id (by omega) (by omega)]; rfl
  have w1 : wrap64 (bt s i) = bt s i := wrap64_id (by omega) (by omega)
  unfold pack_ReadNumber.j5
  simp only [may_tells, Option.bind_some, e, w1, Int.toNat_natCast, decide_eq_true_eq]
  have p1 : (0 : Int) ≤ ((i + 1 : Nat) : Int) := by omega
  have p2 : ((i + 1 : Nat) : Int) ≤ (s.size : Int) := by omega
  simp only [if_pos p1, if_pos p2]
  by_cases h1 : bt s i = 0 <;> by_cases h2 : 0 < i <;> by_cases h3 : -1152921504606846976 ≤ n ∧ n ≤ 1152921504606846976 <;> simp [h1, h2, h3]
theorem read_l3 (kk : Nat) (s : ByteArray) (hs : s.size ≤ 140737488351232) (f : Nat) : ∀ (k i : Nat), i + f = 9 →
    pack_ReadNumber.l3 kk s (k + f + 1) (rdv s i) i = some (rdGo s f i) := by
  have stop : ∀ (i : Nat), ((i : Int) < mn (s.size : Int) 9 ↔ i < s.size ∧ i < 9) := fun i => by unfold mn; split <;> omega
  have hfin : ∀ m : Nat, (if (s.size : Int) ≥ 9 then (some ((0 : Int), (⟨#[]⟩ : ByteArray), (3 : Int))) else (some (0, (⟨#[]⟩ : ByteArray), 4))) = some (if s.size ≥ 9 then (0, ⟨#[]⟩, 3) else (0, ⟨#[]⟩, 4)) := fun m => by
    by_cases h : s.size ≥ 9
    · rw [if_pos h, if_pos (by omega)]
    · rw [if_neg h, if_neg (by omega)]
  induction f with
  | zero =>
    intro k i hi
    rw [pack_ReadNumber.l3, if_neg (by rw [stop]; omega), rdGo]
    exact hfin 0
  | succ f ih =>
    intro k i hi
    rw [show k + (f + 1) + 1 = (k + f + 1) + 1 by omega, pack_ReadNumber.l3, rdGo]
    by_cases h : i < s.size
    · have hm : (i : Int) < mn (s.size : Int) 9 := (stop i).2 ⟨h, by omega⟩
      have h0 : (0 : Int) ≤ (i : Int) := by omega
      have h1 : (i : Int) < (s.size : Int) := by omega
      have hb := bt_range s i
      have hr := rdv_range s i
      have hv := rdv_small s (i + 1) (by omega)
      have hf := fun n q => read_j5 kk s i n q h (by omega)
      have ho2 := or_add (rdv s i) (bt s i % 128) i (by omega) hr.1 hr.2 (by omega) (by omega)
      have w1 : wrap64 (bt s i) = bt s i := wrap64_id (by clear ho2 hf; omega) (by clear ho2 hf; omega)
      have w2 : Int.tmod (bt s i) 128 = bt s i % 128 := Int.tmod_eq_emod_of_nonneg hb.1
      have w3 : (0 : Int) ≤ wrap64 (7 * (i : Int)) := (wrap64_id (a := 7 * (i : Int)) (by clear w1 ho2 hf; omega) (by clear w1 ho2 hf; omega)).symm ▸ Int.mul_nonneg (by decide) h0
      have w4 : wrap64 ((i : Int) + 1) = ((i + 1 : Nat) : Int) := (wrap64_id (by clear w1 w3 ho2 hf; omega) (by clear w1 w3 ho2 hf; omega)).trans (by rfl)
      have hstep : rdv s i + bt s i % 128 * 128 ^ i = rdv s (i + 1) := rfl
      rw [if_pos h]
      refine (if_pos hm).trans ((if_pos h0).trans ((if_pos h1).trans ((if_pos w3).trans ?_)))
      simp only [w1, w2]
      rw [ho2, hstep]
      by_cases hc : bt s i ≥ 128
      · rw [if_pos hc, if_pos hc, w4]
        exact ih k (i + 1) (by clear w1 w3 w4 ho2 hf; omega)
      · rw [if_neg hc, if_neg hc]
        unfold rdFin
        by_cases ho : Int.tmod (rdv s (i + 1)) 2 = 1
        · refine (if_pos ho).trans ?_
          rw [fin_odd _ hv.1 hv.2 ho]
          exact hf _ _
        · refine (if_neg ho).trans ?_
          rw [fin_even _ hv.1 hv.2 ho]
          exact hf _ _
    · have hm : ¬ ((i : Int) < mn (s.size : Int) 9) := by rw [stop]; omega
      rw [if_neg h]
      refine (if_neg hm).trans ?_
      exact hfin 0
theorem read_tells (k : Nat) (hk : 10 ≤ k) (s : ByteArray) (hs : s.size ≤ 140737488351232) : pack_ReadNumber.f k s = some (rdGo s 9 0) := by
  obtain ⟨k, rfl⟩ : ∃ q, k = q + 10 := ⟨k - 10, by omega⟩
  exact read_l3 (k + 10) s hs 9 k 0 rfl
/-! ### what is written is read -/
def val : List Int → Int
  | [] => 0
  | b :: bs => b % 128 + 128 * val bs
theorem val_snoc (b : Int) : ∀ l : List Int, val (l ++ [b]) = val l + b % 128 * 128 ^ l.length
  | [] => by simp [val]
  | a :: l => by
    rw [List.cons_append, val, val_snoc b l, val, List.length_cons, Int.pow_succ, Int.mul_add, Int.mul_comm ((128 : Int) ^ l.length) 128, Int.mul_left_comm]
    omega
theorem rdv_val (s : ByteArray) : ∀ i, i ≤ s.size → rdv s i = val ((byI s).take i)
  | 0, _ => rfl
  | i + 1, h => by
    have hg := bt_get (s := s) (i := i) (by omega)
    have hl : ((byI s).take i).length = i := by rw [List.length_take, ← size_byI]; omega
    rw [rdv, rdv_val s i (by omega), List.take_add_one, hg, Option.toList_some, val_snoc, hl]
/-- A number's bytes: all but the last one are 128 or more. -/
inductive Dg : List Int → Prop where
  | last {b : Int} (h : 0 ≤ b) (h2 : b < 128) : Dg [b]
  | more {b : Int} {l : List Int} (h : 128 ≤ b) (h2 : b < 256) (k : Dg l) (h3 : 0 < val l) : Dg (b :: l)
theorem digs_ok : ∀ (n : Nat) (x : Int), 0 ≤ x → x < 128 * 128 ^ n → Dg (digs n x) ∧ val (digs n x) = x ∧ (digs n x).length ≤ n + 1
  | 0, x, h0, h1 => by
    have h1' : x < 128 := by simpa using h1
    refine ⟨.last h0 h1', ?_, by simp [digs]⟩
    simp [digs, val]
    omega
  | n + 1, x, h0, h1 => by
    rw [digs]
    by_cases h : x ≥ 128
    · have hp : (128 : Int) ^ (n + 1) = 128 ^ n * 128 := Int.pow_succ ..
      obtain ⟨a1, a2, a3⟩ := digs_ok n (x / 128) (by omega) (by omega)
      rw [if_pos h]
      refine ⟨.more (by omega) (by omega) a1 (by rw [a2]; omega), ?_, by simp; omega⟩
      rw [val, a2]
      omega
    · rw [if_neg h]
      refine ⟨.last h0 (by omega), ?_, by simp⟩
      simp [val]
      omega
theorem Dg.ok8 {l : List Int} (h : Dg l) : okB l := by
  induction h with
  | last h h2 => intro x hx; simp at hx; subst hx; omega
  | more h h2 k h3 ih =>
    intro x hx
    rcases List.mem_cons.1 hx with rfl | hx
    · omega
    · exact ih x hx
theorem Dg.ne {l : List Int} (h : Dg l) : 1 ≤ l.length := by cases h <;> simp
theorem Dg.at {l : List Int} (h : Dg l) : (∀ (i : Nat) (x : Int), i + 1 < l.length → l[i]? = some x → 128 ≤ x) ∧ ∀ x : Int, l[l.length - 1]? = some x → x < 128 ∧ (1 < l.length → x ≠ 0) := by
  induction h with
  | last h h2 => exact ⟨fun i x hi => by simp at hi, fun x hx => by simp at hx; subst hx; exact ⟨h2, by simp⟩⟩
  | @more b l h h2 k h3 ih =>
    have hne := k.ne
    refine ⟨fun i x hi hx => ?_, fun x hx => ?_⟩
    · cases i with
      | zero => simp at hx; omega
      | succ i => exact ih.1 i x (by simpa using hi) (by simpa using hx)
    · rw [List.length_cons, Nat.add_sub_cancel, show l.length = (l.length - 1) + 1 by omega, List.getElem?_cons_succ] at hx
      obtain ⟨h4, h5⟩ := ih.2 x hx
      refine ⟨h4, fun _ h0 => ?_⟩
      by_cases h6 : 1 < l.length
      · exact h5 h6 h0
      · have h7 : l.length = 1 := by omega
        cases l with
        | nil => simp at h7
        | cons y ys =>
          have : ys = [] := by simpa using h7
          subst this
          simp at hx
          subst hx h0
          simp [val] at h3
theorem Dg.of : ∀ (l : List Int), okB l → 1 ≤ l.length → (∀ (i : Nat) (x : Int), i + 1 < l.length → l[i]? = some x → 128 ≤ x) → (∀ x : Int, l[l.length - 1]? = some x → x < 128 ∧ (1 < l.length → x ≠ 0)) → Dg l
  | [], _, h, _, _ => by simp at h
  | [b], ho, _, _, h => by
    have := h b rfl
    exact .last (ho b (by simp)).1 this.1
  | b :: c :: l, ho, _, h1, h2 => by
    have ih := Dg.of (c :: l) (fun x hx => ho x (by simp [hx])) (by simp) (fun i x hi hx => h1 (i + 1) x (by simpa using hi) (by simpa using hx)) (fun x hx => by
      have := h2 x (by simpa using hx)
      exact ⟨this.1, fun _ => this.2 (by simp)⟩)
    refine .more (h1 0 b (by simp) rfl) (ho b (by simp)).2 ih ?_
    have key : ∀ (l : List Int), okB l → Dg l → (∀ x : Int, l[l.length - 1]? = some x → x ≠ 0) → 0 < val l := by
      intro l ho hd hl
      cases hd with
      | @last b h h2 =>
        have := hl b rfl
        simp [val]
        omega
      | more h h2 k h3 => rw [val]; omega
    exact key _ (fun x hx => ho x (by simp [hx])) ih fun x hx => (h2 x (by simpa using hx)).2 (by simp)
theorem Dg.digs {l : List Int} (h : Dg l) : ∀ n, l.length ≤ n + 1 → digs n (val l) = l := by
  induction h with
  | @last b h h2 =>
    intro n _
    have e : val [b] = b := by simp [val]; omega
    rw [e]
    cases n with
    | zero => rfl
    | succ n => rw [Pure.digs, if_neg (by omega)]
  | @more b l h h2 k h3 ih =>
    intro n hn
    cases n with
    | zero => have := k.ne; simp only [List.length_cons] at hn; omega
    | succ n =>
      rw [Pure.digs, val, if_pos (by omega), show (b % 128 + 128 * val l) / 128 = val l by omega, ih n (by simpa using hn), show (b % 128 + 128 * val l) % 128 + 128 = b by omega]
theorem rdGo_found (s : ByteArray) (j : Nat) (hj : j < s.size) (h8 : bt s j < 128) : ∀ (f i : Nat), i ≤ j → j < i + f → (∀ q, i ≤ q → q < j → 128 ≤ bt s (q : Int)) → rdGo s f i = rdFin s j
  | 0, i, h1, h2, _ => by omega
  | f + 1, i, h1, h2, h3 => by
    rw [rdGo, if_pos (by omega)]
    by_cases e : i = j
    · subst e
      rw [if_neg (by omega)]
    · rw [if_pos (h3 i (Nat.le_refl _) (by omega))]
      exact rdGo_found s j hj h8 f (i + 1) (by omega) (by omega) fun q h4 h5 => h3 q (by omega) h5
theorem rdGo_inv (s : ByteArray) (n : Int) (r : ByteArray) : ∀ (f i : Nat), rdGo s f i = (n, r, 0) → ∃ j, i ≤ j ∧ j < i + f ∧ j < s.size ∧ (∀ q, i ≤ q → q < j → 128 ≤ bt s (q : Int)) ∧ bt s j < 128 ∧ rdFin s j = (n, r, 0)
  | 0, i, h => by
    rw [rdGo] at h
    split at h <;> simp at h
  | f + 1, i, h => by
    rw [rdGo] at h
    split at h
    · rename_i hi
      split at h
      · rename_i hb
        obtain ⟨j, h1, h2, h3, h4, h5, h6⟩ := rdGo_inv s n r f (i + 1) h
        refine ⟨j, by omega, by omega, h3, fun q h7 h8 => ?_, h5, h6⟩
        rcases Nat.lt_or_eq_of_le h7 with h9 | h9
        · exact h4 q h9 h8
        · subst h9; exact hb
      · rename_i hb
        exact ⟨i, Nat.le_refl _, by omega, hi, fun q h7 h8 => by omega, by omega, h⟩
    · split at h <;> simp at h
def may (a : Int) : Prop := -1152921504606846976 ≤ a ∧ a ≤ 1152921504606846976
/-- A number's bytes. -/
def numS (a : Int) : ByteArray := strOfNums (digs 8 (zig a))
theorem zig_range {a : Int} (h : may a) : 0 ≤ zig a ∧ zig a < 128 * 128 ^ 8 := by
  unfold may at h
  have h8 : (128 : Int) * 128 ^ 8 = 9223372036854775808 := by decide +kernel
  rw [h8]
  unfold zig
  split <;> omega
theorem zag_zig (a : Int) : zag (zig a) = a := by unfold zag zig; split <;> split <;> omega
theorem zig_zag {x : Int} (h : 0 ≤ x) : zig (zag x) = x := by unfold zag zig; split <;> split <;> omega
theorem numS_by {a : Int} (h : may a) : byI (numS a) = digs 8 (zig a) := byI_num (digs_ok 8 _ (zig_range h).1 (zig_range h).2).1.ok8
theorem numS_size {a : Int} (h : may a) : 1 ≤ (numS a).size ∧ (numS a).size ≤ 9 := by
  have := digs_ok 8 _ (zig_range h).1 (zig_range h).2
  rw [size_byI, numS_by h]
  exact ⟨this.1.ne, this.2.2⟩
/-- What is written is read. -/
theorem read_num {a : Int} (h : may a) (r : ByteArray) : rdGo (numS a ++ r) 9 0 = (a, r, 0) := by
  obtain ⟨d1, d2, d3⟩ := digs_ok 8 _ (zig_range h).1 (zig_range h).2
  have hb := numS_by h
  have hn := d1.ne
  obtain ⟨d4, d5⟩ := d1.at
  have hs : (numS a).size = (digs 8 (zig a)).length := by rw [size_byI, hb]
  have hget : ∀ i, i < (digs 8 (zig a)).length → (byI (numS a ++ r))[i]? = (digs 8 (zig a))[i]? := fun i hi => by
    rw [byI_app, hb, List.getElem?_append_left hi]
  have hj : (digs 8 (zig a)).length - 1 < (numS a ++ r).size := by rw [app_size, hs]; omega
  have hl : ∃ x, (digs 8 (zig a))[(digs 8 (zig a)).length - 1]? = some x := ⟨_, List.getElem?_eq_getElem (by omega)⟩
  obtain ⟨x, hx⟩ := hl
  have hbx := bt_of ((hget _ (by omega)).trans hx)
  obtain ⟨d6, d7⟩ := d5 x hx
  rw [rdGo_found (numS a ++ r) _ hj (by rw [hbx]; exact d6) 9 0 (Nat.zero_le _) (by omega) fun q _ hq => by
    obtain ⟨y, hy⟩ : ∃ y, (digs 8 (zig a))[q]? = some y := ⟨_, List.getElem?_eq_getElem (by omega)⟩
    rw [bt_of ((hget q (by omega)).trans hy)]
    exact d4 q y (by omega) hy]
  have hv : rdv (numS a ++ r) ((digs 8 (zig a)).length - 1 + 1) = zig a := by
    rw [rdv_val _ _ (by omega), byI_app, hb, Nat.sub_add_cancel hn, List.take_left, d2]
  unfold rdFin
  rw [hv, zag_zig, hbx, if_neg]
  · rw [Nat.sub_add_cancel hn, ← hs, ext_right]
  · rintro (⟨h1, h2⟩ | h1)
    · exact d7 (by omega) h1
    · exact h1 h
/-- What is read was written. -/
theorem read_inv {s r : ByteArray} {n : Int} (h : rdGo s 9 0 = (n, r, 0)) : may n ∧ s = numS n ++ r := by
  obtain ⟨j, _, h2, h3, h4, h5, h6⟩ := rdGo_inv s n r 9 0 h
  unfold rdFin at h6
  split at h6
  · simp at h6
  · rename_i hc
    simp only [Prod.mk.injEq, and_true] at h6
    obtain ⟨rfl, rfl⟩ := h6
    have hm : may (zag (rdv s (j + 1))) := by
      unfold may
      exact Classical.byContradiction fun hh => hc (.inr hh)
    refine ⟨hm, ?_⟩
    have hl : ((byI s).take (j + 1)).length = j + 1 := by rw [List.length_take, ← size_byI]; omega
    have hd : Dg ((byI s).take (j + 1)) := by
      refine Dg.of _ (fun x hx => okB_byI s x (List.mem_of_mem_take hx)) (by omega) (fun i x hi hx => ?_) (fun x hx => ?_)
      · rw [hl] at hi
        rw [List.getElem?_take, if_pos (by omega)] at hx
        rw [← bt_of hx]
        exact h4 i (Nat.zero_le _) (by omega)
      · rw [hl, Nat.add_sub_cancel, List.getElem?_take, if_pos (by omega)] at hx
        rw [← bt_of hx]
        exact ⟨h5, fun hlt h0 => hc (.inl ⟨h0, by omega⟩)⟩
    have hv := rdv_val s (j + 1) (by omega)
    have h0 : 0 ≤ rdv s (j + 1) := (rdv_range s _).1
    have e : digs 8 (zig (zag (rdv s (j + 1)))) = (byI s).take (j + 1) := by rw [zig_zag h0, hv, hd.digs 8 (by omega)]
    apply byI_inj
    rw [byI_app, numS_by hm, e, byI_ext, size_byI s, List.take_length, List.take_append_drop]
theorem mn_le_left (a b : Int) : mn a b ≤ a := by unfold mn; split <;> omega
theorem mn_le_right (a b : Int) : mn a b ≤ b := by unfold mn; split <;> omega
theorem mn_nonneg {a b : Int} (h : 0 ≤ a) (h' : 0 ≤ b) : 0 ≤ mn a b := by unfold mn; split <;> omega
/-- The xor of two, of 32 bits, in natural numbers. -/
theorem x32 (a b : Nat) (ha : a < 4294967296) (hb : b < 4294967296) : Go.bits .xor .u32 (a : Int) (b : Int) = ((a ^^^ b : Nat) : Int) := by
  have h : (a ^^^ b) < 4294967296 := Nat.xor_lt_two_pow (n := 32) ha hb
  simp only [Go.bits, IntKind.wrap_u32]
  have e1 : (BitVec.ofInt IntKind.u32.bits (a : Int) ^^^ BitVec.ofInt IntKind.u32.bits (b : Int)).toNat = a ^^^ b := by
    show (BitVec.ofInt 32 (a : Int) ^^^ BitVec.ofInt 32 (b : Int)).toNat = a ^^^ b
    rw [BitVec.toNat_xor]
    simp [BitVec.toNat_ofNat]
    rw [Nat.mod_eq_of_lt ha, Nat.mod_eq_of_lt hb]
  rw [e1]
  omega
theorem x8 (a b : Nat) (ha : a < 256) (hb : b < 256) : Go.bits .xor .u8 (a : Int) (b : Int) = ((a ^^^ b : Nat) : Int) := by
  have h : (a ^^^ b) < 256 := Nat.xor_lt_two_pow (n := 8) ha hb
  simp only [Go.bits, IntKind.wrap_u8]
  have e1 : (BitVec.ofInt IntKind.u8.bits (a : Int) ^^^ BitVec.ofInt IntKind.u8.bits (b : Int)).toNat = a ^^^ b := by
    show (BitVec.ofInt 8 (a : Int) ^^^ BitVec.ofInt 8 (b : Int)).toNat = a ^^^ b
    rw [BitVec.toNat_xor]
    simp [BitVec.toNat_ofNat]
    rw [Nat.mod_eq_of_lt ha, Nat.mod_eq_of_lt hb]
  rw [e1]
  omega
/-! The check, in natural numbers. -/
def cstp (c : Nat) : Nat := if c % 2 = 1 then (c / 2) ^^^ 2197175160 else c / 2
def cit : Nat → Nat → Nat
  | 0, c => c
  | n + 1, c => cstp (cit n c)
def bn (s : ByteArray) (i : Nat) : Nat := (s.data.toList.getD i 0).toNat
def cbyte (c b : Nat) : Nat := (c / 256) ^^^ cit 8 ((c % 256) ^^^ b)
def cupto (c : Nat) (s : ByteArray) : Nat → Nat
  | 0 => c
  | i + 1 => cbyte (cupto c s i) (bn s i)
theorem bn_lt (s : ByteArray) (i : Nat) : bn s i < 256 := UInt8.toNat_lt _
theorem bt_bn (s : ByteArray) (i : Nat) : bt s (i : Int) = (bn s i : Int) := by
  unfold bt bn
  have hl : s.data.toList.length = s.size := by rw [Array.length_toList]; rfl
  by_cases h : i < s.size
  · have h' : ((i : Int)).toNat < s.size := by simpa using h
    rw [dif_pos h']
    have h2 : i < s.data.toList.length := by omega
    simp [List.getD_eq_getElem?_getD, List.getElem?_eq_getElem h2]
    rfl
  · have h' : ¬ ((i : Int)).toNat < s.size := by simpa using h
    rw [dif_neg h']
    have h2 : s.data.toList.length ≤ i := by omega
    simp [List.getD_eq_getElem?_getD, List.getElem?_eq_none h2]
theorem cstp_lt (c : Nat) (h : c < 4294967296) : cstp c < 4294967296 := by
  unfold cstp
  split
  · exact Nat.xor_lt_two_pow (n := 32) (by omega) (by decide)
  · omega
theorem cit_lt (n c : Nat) (h : c < 4294967296) : cit n c < 4294967296 := by
  induction n with
  | zero => exact h
  | succ n ih => exact cstp_lt _ ih
theorem xor8_lt {a b : Nat} (ha : a < 256) (hb : b < 256) : a ^^^ b < 256 := Nat.xor_lt_two_pow (n := 8) ha hb
theorem cbyte_lt (c b : Nat) (h : c < 4294967296) (hb : b < 256) : cbyte c b < 4294967296 :=
  Nat.xor_lt_two_pow (n := 32) (by omega) (cit_lt _ _ (by have := xor8_lt (a := c % 256) (b := b) (by omega) hb; omega))
theorem cupto_lt (c : Nat) (s : ByteArray) (h : c < 4294967296) : ∀ i, cupto c s i < 4294967296
  | 0 => h
  | i + 1 => cbyte_lt _ _ (cupto_lt c s h i) (bn_lt s i)
/-- The check of a text, on from another one. -/
def con (c : Nat) (s : ByteArray) : Nat := (cupto (c ^^^ 4294967295) s s.size) ^^^ 4294967295
theorem con_lt (c : Nat) (s : ByteArray) (h : c < 4294967296) : con c s < 4294967296 :=
  Nat.xor_lt_two_pow (n := 32) (cupto_lt _ _ (Nat.xor_lt_two_pow (n := 32) h (by decide)) _) (by decide)
theorem cupto_congr (c : Nat) (s t : ByteArray) : ∀ n, (∀ i, i < n → bn s i = bn t i) → cupto c s n = cupto c t n
  | 0, _ => rfl
  | n + 1, h => by
    show cbyte (cupto c s n) (bn s n) = cbyte (cupto c t n) (bn t n)
    rw [cupto_congr c s t n (fun i hi => h i (by omega)), h n (by omega)]
theorem cupto_add (c : Nat) (s t : ByteArray) (n : Nat) : ∀ m, (∀ i, i < m → bn s (n + i) = bn t i) → cupto c s (n + m) = cupto (cupto c s n) t m
  | 0, _ => rfl
  | m + 1, h => by
    show cbyte (cupto c s (n + m)) (bn s (n + m)) = cbyte (cupto (cupto c s n) t m) (bn t m)
    rw [cupto_add c s t n m (fun i hi => h i (by omega)), h m (by omega)]
theorem bn_left (s t : ByteArray) (i : Nat) (h : i < s.size) : bn (s ++ t) i = bn s i := by
  have h2 : i < s.data.toList.length := by rw [Array.length_toList]; exact h
  unfold bn
  rw [ByteArray.data_append, Array.toList_append, List.getD_eq_getElem?_getD, List.getElem?_append_left h2, ← List.getD_eq_getElem?_getD]
theorem bn_right (s t : ByteArray) (i : Nat) : bn (s ++ t) (s.size + i) = bn t i := by
  have h2 : s.data.toList.length = s.size := by rw [Array.length_toList]; rfl
  unfold bn
  rw [ByteArray.data_append, Array.toList_append, List.getD_eq_getElem?_getD, List.getElem?_append_right (by omega), h2, Nat.add_sub_cancel_left, ← List.getD_eq_getElem?_getD]
theorem con_app (c : Nat) (s t : ByteArray) : con (con c s) t = con c (s ++ t) := by
  unfold con
  have e : ∀ v : Nat, v ^^^ 4294967295 ^^^ 4294967295 = v := fun v => by rw [Nat.xor_assoc, Nat.xor_self, Nat.xor_zero]
  rw [e, ByteArray.size_append, cupto_add _ (s ++ t) t s.size t.size (fun i _ => bn_right s t i), cupto_congr _ (s ++ t) s s.size (fun i hi => bn_left s t i hi)]
/-! The check is linear. -/
theorem xor_half (x y : Nat) : (x ^^^ y) / 2 = x / 2 ^^^ y / 2 := by
  have h := Nat.shiftRight_xor_distrib (a := x) (b := y) (i := 1)
  simpa [Nat.shiftRight_eq_div_pow] using h
theorem xor_low (x y : Nat) : (x ^^^ y) % 2 = (x % 2 + y % 2) % 2 := by
  have h := Nat.xor_mod_two_pow (a := x) (b := y) (n := 1)
  simp only [Nat.pow_one] at h
  rw [h]
  rcases Nat.mod_two_eq_zero_or_one x with hx | hx <;> rcases Nat.mod_two_eq_zero_or_one y with hy | hy <;> rw [hx, hy] <;> rfl
theorem cstp_xor (x y : Nat) : cstp (x ^^^ y) = cstp x ^^^ cstp y := by
  unfold cstp
  rw [xor_low, xor_half]
  rcases Nat.mod_two_eq_zero_or_one x with hx | hx <;> rcases Nat.mod_two_eq_zero_or_one y with hy | hy <;> simp only [hx, hy] <;> simp
  · rw [Nat.xor_assoc]
  · rw [Nat.xor_assoc, Nat.xor_assoc, Nat.xor_comm (y / 2)]
  · rw [show (x / 2 ^^^ 2197175160) ^^^ (y / 2 ^^^ 2197175160) = (x / 2 ^^^ y / 2) ^^^ (2197175160 ^^^ 2197175160) by ac_rfl]
    simp
theorem cit_xor (n x y : Nat) : cit n (x ^^^ y) = cit n x ^^^ cit n y := by
  induction n with
  | zero => rfl
  | succ n ih =>
    show cstp (cit n (x ^^^ y)) = cstp (cit n x) ^^^ cstp (cit n y)
    rw [ih, cstp_xor]
theorem cit_front (n c : Nat) : cit n (cstp c) = cit (n + 1) c := by
  induction n with
  | zero => rfl
  | succ n ih =>
    show cstp (cit n (cstp c)) = cstp (cit (n + 1) c)
    rw [ih]
theorem cit_add (m n c : Nat) : cit m (cit n c) = cit (m + n) c := by
  induction m with
  | zero => rw [Nat.zero_add]; rfl
  | succ m ih =>
    rw [show m + 1 + n = (m + n) + 1 by omega]
    show cstp (cit m (cit n c)) = cstp (cit (m + n) c)
    rw [ih]
theorem cit_pow (n d : Nat) : cit n (2 ^ n * d) = d := by
  induction n generalizing d with
  | zero => simp [cit]
  | succ n ih =>
    rw [← cit_front]
    have e : cstp (2 ^ (n + 1) * d) = 2 ^ n * d := by
      unfold cstp
      rw [Nat.pow_succ]
      rw [if_neg (by rw [Nat.mul_comm (2 ^ n) 2, Nat.mul_assoc]; omega)]
      rw [Nat.mul_comm (2 ^ n) 2, Nat.mul_assoc]
      omega
    rw [e, ih]
theorem xor_split (c : Nat) : c = (256 * (c / 256)) ^^^ (c % 256) := by
  have h := Nat.two_pow_add_eq_or_of_lt (i := 8) (b := c % 256) (Nat.mod_lt _ (by decide)) (c / 256)
  have h2 : 256 * (c / 256) ^^^ c % 256 = 256 * (c / 256) ||| c % 256 := by
    apply Nat.eq_of_testBit_eq
    intro i
    rw [Nat.testBit_xor, Nat.testBit_or]
    have e1 : (256 * (c / 256)).testBit i = (decide (i ≥ 8) && c.testBit i) := by
      rw [show (256 : Nat) = 2 ^ 8 from rfl, Nat.testBit_two_pow_mul, Nat.testBit_div_two_pow]
      by_cases hi : i ≥ 8
      · rw [show i - 8 + 8 = i by omega]
      · simp [hi]
    have e2 : (c % 256).testBit i = (decide (i < 8) && c.testBit i) := by
      rw [show (256 : Nat) = 2 ^ 8 from rfl, Nat.testBit_mod_two_pow]
    rw [e1, e2]
    by_cases hi : i < 8
    · simp [hi, show ¬ 8 ≤ i by omega]
    · simp [hi, show 8 ≤ i by omega]
  rw [h2, ← show (256 : Nat) = 2 ^ 8 from rfl] at *
  rw [← h]
  omega
theorem cbyte_bits (c b : Nat) : cbyte c b = cit 8 (c ^^^ b) := by
  unfold cbyte
  have e : c ^^^ b = (256 * (c / 256)) ^^^ ((c % 256) ^^^ b) := by
    rw [← Nat.xor_assoc, ← xor_split]
  rw [e, cit_xor 8 (256 * (c / 256)), show (256 : Nat) * (c / 256) = 2 ^ 8 * (c / 256) from rfl, cit_pow]

/-! ### the check, as the program goes -/
theorem w32 {n : Int} (h : 0 ≤ n) (h2 : n < 4294967296) : IntKind.u32.wrap n = n := by rw [IntKind.wrap_u32]; omega
theorem and1 (c : Nat) (h : c < 4294967296) : Go.bits .and .u32 (c : Int) 1 = ((c % 2 : Nat) : Int) := by
  have := bits_mask .u32 32 (by decide) (by intro n h h'; rw [IntKind.wrap_u32]; omega) 1 (by decide) (c : Int) (by omega) (by omega)
  have h2 : Go.bits .and .u32 (c : Int) 1 = (c : Int) % 2 := this
  rw [h2]
  omega
theorem fdiv2 (c : Nat) : (c : Int).fdiv (2 ^ min (1 : Int).toNat IntKind.u32.bits) = ((c / 2 : Nat) : Int) := by
  rw [show (2 : Int) ^ min (1 : Int).toNat IntKind.u32.bits = 2 by decide +kernel, Int.fdiv_eq_ediv_of_nonneg _ (by decide)]
  omega
theorem fdiv8 (c : Nat) : (c : Int).fdiv (2 ^ min (8 : Int).toNat IntKind.u32.bits) = ((c / 256 : Nat) : Int) := by
  rw [show (2 : Int) ^ min (8 : Int).toNat IntKind.u32.bits = 256 by decide +kernel, Int.fdiv_eq_ediv_of_nonneg _ (by decide)]
  omega
theorem tab_in (k : Nat) (rec_ : Int → List Int → Option (List Int)) (l : List Int) (n : Nat) (hn : n < 256) (hl : l.length = 256) : ∀ (d j m : Nat), j + d = 8 → d < m →
    check_Table.l9 k rec_ (n : Int) l m (cit j n : Int) (j : Int) = rec_ ((n + 1 : Nat) : Int) (l.set n (cit 8 n : Int))
  | 0, j, m, hj, hm => by
    obtain ⟨m, rfl⟩ : ∃ q, m = q + 1 := ⟨m - 1, by omega⟩
    obtain rfl : j = 8 := by omega
    rw [check_Table.l9, if_neg (by decide), if_pos (by omega), if_pos (by omega), if_pos (by rw [Int.toNat_natCast]; omega), Int.toNat_natCast, w32 (by omega) (by omega)]
    rfl
  | d + 1, j, m, hj, hm => by
    obtain ⟨m, rfl⟩ : ∃ q, m = q + 1 := ⟨m - 1, by omega⟩
    have hc := cit_lt j n (by omega)
    have ih := tab_in k rec_ l n hn hl d (j + 1) m (by omega) (by omega)
    have hw : wrap64 ((j : Int) + 1) = ((j + 1 : Nat) : Int) := by unfold wrap64; omega
    have hs : cit (j + 1) n = cstp (cit j n) := rfl
    rw [check_Table.l9, if_pos (by omega), and1 _ hc, fdiv2, hw]
    by_cases ho : cit j n % 2 = 1
    · have e5 : Go.bits .xor .u32 ((cit j n / 2 : Nat) : Int) 2197175160 = ((cit (j + 1) n : Nat) : Int) := by
        rw [hs, cstp, if_pos ho]
        exact x32 (cit j n / 2) 2197175160 (by omega) (by decide)
      rw [if_pos (by rw [ho]; rfl), e5]
      exact ih
    · have e4 : cit (j + 1) n = cit j n / 2 := by rw [hs, cstp, if_neg ho]
      rw [if_neg (by omega), ← e4]
      exact ih
def tabl (n : Nat) : List Int := (List.range 256).map fun i => if i < n then (cit 8 i : Int) else 0
theorem tabl_len (n : Nat) : (tabl n).length = 256 := by simp [tabl]
theorem tabl_at {n i : Nat} (h : i < 256) : (tabl n)[i]? = some (if i < n then (cit 8 i : Int) else 0) := by simp [tabl, h]
theorem tabl_set {n : Nat} (h : n < 256) : (tabl n).set n (cit 8 n : Int) = tabl (n + 1) := by
  apply List.ext_getElem?
  intro i
  by_cases hi : i < 256
  · rw [tabl_at hi, List.getElem?_set]
    by_cases e : n = i
    · subst e
      simp [tabl_len, h]
    · rw [if_neg e, tabl_at hi]
      have : (i < n + 1) ↔ i < n := by omega
      simp [this]
  · rw [List.getElem?_eq_none (by simp [tabl_len]; omega), List.getElem?_eq_none (by simp [tabl_len]; omega)]
theorem tab_out (k : Nat) (hk : 9 ≤ k) : ∀ (d n m : Nat), n + d = 256 → d < m → check_Table.l5 k m (n : Int) (tabl n) = some (tabl 256)
  | 0, n, m, hn, hm => by
    obtain ⟨m, rfl⟩ : ∃ q, m = q + 1 := ⟨m - 1, by omega⟩
    obtain rfl : n = 256 := by omega
    rw [check_Table.l5, if_neg (by decide), if_pos (tabl_len _), if_pos (List.length_replicate ..)]
  | d + 1, n, m, hn, hm => by
    obtain ⟨m, rfl⟩ : ∃ q, m = q + 1 := ⟨m - 1, by omega⟩
    have := tab_in k (check_Table.l5 k m) (tabl n) n (by omega) (tabl_len n) 8 0 k rfl (by omega)
    rw [check_Table.l5, if_pos (by omega)]
    refine Eq.trans ?_ (this.trans ?_)
    · rfl
    · rw [tabl_set (by omega)]
      exact tab_out k hk d (n + 1) m (by omega) (by omega)
theorem table_tells (k : Nat) (hk : 300 ≤ k) : check_Table.f k = some (tabl 256) := by
  unfold check_Table.f
  have h0 : List.replicate 256 (0 : Int) = tabl 0 := by decide +kernel
  rw [h0]
  exact tab_out k (by omega) 256 0 k rfl (by omega)
theorem on_l1 (k : Nat) (s : ByteArray) (hs : s.size ≤ 1000000) (c0 : Nat) (h0 : c0 < 4294967296) : ∀ (d i m : Nat), i + d = s.size → d < m →
    check_On.l1 k s (tabl 256) m (cupto c0 s i : Int) (i : Int) = some (((cupto c0 s s.size) ^^^ 4294967295 : Nat) : Int)
  | 0, i, m, hi, hm => by
    obtain ⟨m, rfl⟩ : ∃ q, m = q + 1 := ⟨m - 1, by omega⟩
    obtain rfl : i = s.size := by omega
    rw [check_On.l1, if_neg (by omega)]
    exact congrArg some (x32 _ 4294967295 (cupto_lt _ _ h0 _) (by decide))
  | d + 1, i, m, hi, hm => by
    obtain ⟨m, rfl⟩ : ∃ q, m = q + 1 := ⟨m - 1, by omega⟩
    have ih := on_l1 k s hs c0 h0 d (i + 1) m (by omega) (by omega)
    have hc := cupto_lt c0 s h0 i
    have hb := bn_lt s i
    have hw : wrap64 ((i : Int) + 1) = ((i + 1 : Nat) : Int) := by unfold wrap64; omega
    have e1 : IntKind.u8.wrap (cupto c0 s i : Int) = ((cupto c0 s i % 256 : Nat) : Int) := by rw [IntKind.wrap_u8]; omega
    have hx := xor8_lt (a := cupto c0 s i % 256) (b := bn s i) (by omega) hb
    have e2 : Go.bits .xor .u8 (IntKind.u8.wrap (cupto c0 s i : Int)) (bt s (i : Int)) = ((cupto c0 s i % 256 ^^^ bn s i : Nat) : Int) := by
      rw [e1, bt_bn]
      exact x8 _ _ (by omega) hb
    rw [check_On.l1, if_pos (by omega), if_pos (by omega), if_pos (by omega), e2, if_pos (by omega), if_pos (by omega), Int.toNat_natCast, tabl_at hx, if_pos hx, Option.bind_some, fdiv8, hw, x32 _ _ (by omega) (cit_lt _ _ (by omega))]
    exact ih
theorem on_tells (k c : Nat) (hc : c < 4294967296) (s : ByteArray) (hs : s.size ≤ 1000000) (hk : 300 ≤ k) (hk2 : s.size < k) : check_On.f k (c : Int) s = some (con c s : Int) := by
  have h1 : c ^^^ 4294967295 < 4294967296 := Nat.xor_lt_two_pow (n := 32) hc (by decide)
  unfold check_On.f con
  rw [table_tells k hk, Option.bind_some, if_pos (tabl_len _), if_pos (List.length_replicate ..), show Go.bits .xor .u32 (c : Int) 4294967295 = ((c ^^^ 4294967295 : Nat) : Int) from x32 c 4294967295 hc (by decide)]
  exact on_l1 k s hs _ h1 s.size 0 k (by omega) hk2
theorem of_check (k : Nat) (s : ByteArray) (hs : s.size ≤ 1000000) (hk : 300 ≤ k) (hk2 : s.size < k) : check_Of.f k s = some (con 0 s : Int) := by
  unfold check_Of.f
  rw [show (0 : Int) = ((0 : Nat) : Int) from rfl, on_tells k 0 (by decide) s hs hk hk2]
  rfl
/-- The four bytes of a check, the lowest first. -/
def b4 (c : Nat) : List Int := [((c % 256 : Nat) : Int), ((c / 256 % 256 : Nat) : Int), ((c / 65536 % 256 : Nat) : Int), ((c / 16777216 % 256 : Nat) : Int)]
theorem bytes_check (k c : Nat) (hk : 5 ≤ k) : check_Bytes.f k (c : Int) = some (strOfNums (b4 c)) := by
  obtain ⟨k, rfl⟩ : ∃ q, k = q + 5 := ⟨k - 5, by omega⟩
  have q0 : IntKind.u8.wrap ((c : Int).fdiv (2 ^ min (wrap64 (8 * 0)).toNat IntKind.u32.bits)) = ((c % 256 : Nat) : Int) := by
    rw [show (2 : Int) ^ min (wrap64 (8 * 0)).toNat IntKind.u32.bits = 1 by decide +kernel, Int.fdiv_eq_ediv_of_nonneg _ (by decide), IntKind.wrap_u8]; omega
  have q1 : IntKind.u8.wrap ((c : Int).fdiv (2 ^ min (wrap64 (8 * 1)).toNat IntKind.u32.bits)) = ((c / 256 % 256 : Nat) : Int) := by
    rw [show (2 : Int) ^ min (wrap64 (8 * 1)).toNat IntKind.u32.bits = 256 by decide +kernel, Int.fdiv_eq_ediv_of_nonneg _ (by decide), IntKind.wrap_u8]; omega
  have q2 : IntKind.u8.wrap ((c : Int).fdiv (2 ^ min (wrap64 (8 * 2)).toNat IntKind.u32.bits)) = ((c / 65536 % 256 : Nat) : Int) := by
    rw [show (2 : Int) ^ min (wrap64 (8 * 2)).toNat IntKind.u32.bits = 65536 by decide +kernel, Int.fdiv_eq_ediv_of_nonneg _ (by decide), IntKind.wrap_u8]; omega
  have q3 : IntKind.u8.wrap ((c : Int).fdiv (2 ^ min (wrap64 (8 * 3)).toNat IntKind.u32.bits)) = ((c / 16777216 % 256 : Nat) : Int) := by
    rw [show (2 : Int) ^ min (wrap64 (8 * 3)).toNat IntKind.u32.bits = 16777216 by decide +kernel, Int.fdiv_eq_ediv_of_nonneg _ (by decide), IntKind.wrap_u8]; omega
  have s0 : wrap64 (0 + 1) = 1 := by decide +kernel
  have s1 : wrap64 (1 + 1) = 2 := by decide +kernel
  have s2 : wrap64 (2 + 1) = 3 := by decide +kernel
  have s3 : wrap64 (3 + 1) = 4 := by decide +kernel
  have p0 : (0 : Int) ≤ wrap64 (8 * 0) := by decide +kernel
  have p1 : (0 : Int) ≤ wrap64 (8 * 1) := by decide +kernel
  have p2 : (0 : Int) ≤ wrap64 (8 * 2) := by decide +kernel
  have p3 : (0 : Int) ≤ wrap64 (8 * 3) := by decide +kernel
  unfold check_Bytes.f
  rw [check_Bytes.l1, if_pos (by decide), if_pos p0, if_pos (by decide), if_pos (by decide), if_pos (by decide), q0, s0]
  rw [check_Bytes.l1, if_pos (by decide), if_pos p1, if_pos (by decide), if_pos (by decide), if_pos (by simp), q1, s1]
  rw [check_Bytes.l1, if_pos (by decide), if_pos p2, if_pos (by decide), if_pos (by decide), if_pos (by simp), q2, s2]
  rw [check_Bytes.l1, if_pos (by decide), if_pos p3, if_pos (by decide), if_pos (by decide), if_pos (by simp), q3, s3]
  rw [check_Bytes.l1, if_neg (by decide), if_pos (by simp)]
  rfl
/-! ### records -/
def B4 (d : ByteArray) : ByteArray := strOfNums (b4 (con 0 d))
theorem B4_size (d : ByteArray) : (B4 d).size = 4 := by rw [B4, num_size]; rfl
/-- A record's bytes. -/
def frm (d : ByteArray) : ByteArray := numS d.size ++ d ++ B4 d
theorem may_small {n : Nat} (h : n ≤ 1000000) : may (n : Int) := by unfold may; omega
theorem frm_size {d : ByteArray} (h : d.size ≤ 1000000) : d.size + 5 ≤ (frm d).size ∧ (frm d).size ≤ d.size + 13 := by
  have := numS_size (may_small h)
  rw [frm, app_size, app_size, B4_size]
  omega
/-- One record ahead of what is behind it. -/
def fStep (s : ByteArray) : Option (ByteArray × ByteArray) :=
  if (rdGo s 9 0).2.2 = 0 ∧ 0 ≤ (rdGo s 9 0).1 ∧ (rdGo s 9 0).1 ≤ 4096 ∧ (rdGo s 9 0).1 + 4 ≤ (rdGo s 9 0).2.1.size ∧ (rdGo s 9 0).2.1.extract (rdGo s 9 0).1.toNat ((rdGo s 9 0).1 + 4).toNat = B4 ((rdGo s 9 0).2.1.extract 0 (rdGo s 9 0).1.toNat) then
    some ((rdGo s 9 0).2.1.extract 0 (rdGo s 9 0).1.toNat, (rdGo s 9 0).2.1.extract ((rdGo s 9 0).1 + 4).toNat (rdGo s 9 0).2.1.size) else none
theorem fStep_frm {d : ByteArray} (h : d.size ≤ 4096) (r : ByteArray) : fStep (frm d ++ r) = some (d, r) := by
  have e : frm d ++ r = numS d.size ++ (d ++ (B4 d ++ r)) := by rw [frm, app_assoc, app_assoc]
  unfold fStep
  rw [e, read_num (may_small (by omega))]
  have hs : (d ++ (B4 d ++ r)).size = d.size + (4 + r.size) := by rw [app_size, app_size, B4_size]
  have e1 : (d ++ (B4 d ++ r)).extract 0 d.size = d := ext_left _ _
  have e2 : (d ++ (B4 d ++ r)).extract d.size (d.size + 4) = B4 d := by
    apply byI_inj
    rw [byI_ext, byI_app, byI_app, size_byI d, ← List.append_assoc, List.take_left' (by rw [List.length_append, ← size_byI, ← size_byI, B4_size]), List.drop_left]
  have e3 : (d ++ (B4 d ++ r)).extract (d.size + 4) (d.size + (4 + r.size)) = r := by
    have := ext_right (d ++ B4 d) r
    rw [app_assoc, hs, app_size, B4_size] at this
    exact this
  have e4 : ((d.size : Int) + 4).toNat = d.size + 4 := by omega
  simp only [Int.toNat_natCast, e4, e1, e2, hs, e3]
  rw [if_pos]
  exact ⟨by trivial, by omega, by omega, by omega, by trivial⟩
theorem fStep_inv {s d r : ByteArray} (h : fStep s = some (d, r)) : s = frm d ++ r ∧ d.size ≤ 4096 := by
  unfold fStep at h
  split at h
  · rename_i hc
    obtain ⟨c1, c2, c3, c4, c5⟩ := hc
    generalize hq : rdGo s 9 0 = q at *
    obtain ⟨n, t, e⟩ := q
    simp only at c1 c2 c3 c4 c5 h
    subst c1
    simp only [Option.some.injEq, Prod.mk.injEq] at h
    obtain ⟨rfl, rfl⟩ := h
    obtain ⟨_, rfl⟩ := read_inv hq
    have hn : n.toNat ≤ t.size := by omega
    have hs : (t.extract 0 n.toNat).size = n.toNat := by rw [ext_size _ _ _ hn]; omega
    have e5 : t.extract 0 n.toNat ++ (B4 (t.extract 0 n.toNat) ++ t.extract (n + 4).toNat t.size) = t := by
      rw [← c5]
      apply byI_inj
      rw [byI_app, byI_app, byI_ext, byI_ext, byI_ext, size_byI t, List.take_length, List.drop_zero, show (n + 4).toNat = n.toNat + 4 by omega]
      rw [List.drop_take, Nat.add_sub_cancel_left, ← List.drop_drop, List.take_append_drop, List.take_append_drop]
    refine ⟨?_, by omega⟩
    rw [frm, hs, app_assoc, app_assoc, e5]
    congr 2
    omega
  · cases h
theorem fStep_iff {s d r : ByteArray} : fStep s = some (d, r) ↔ s = frm d ++ r ∧ d.size ≤ 4096 := ⟨fStep_inv, fun h => by rw [h.1]; exact fStep_frm h.2 r⟩
/-- Records' bytes, one behind the other. -/
def whole : List ByteArray → ByteArray
  | [] => ⟨#[]⟩
  | d :: l => frm d ++ whole l
/-- The records of bytes, and what is left. -/
inductive Scans : ByteArray → List ByteArray → ByteArray → Prop where
  | nil {s : ByteArray} (h : fStep s = none) : Scans s [] s
  | cons {s d r t : ByteArray} {l : List ByteArray} (h : fStep s = some (d, r)) (k : Scans r l t) : Scans s (d :: l) t
theorem step_less {s d r : ByteArray} (h : fStep s = some (d, r)) : r.size + 5 ≤ s.size := by
  obtain ⟨rfl, h2⟩ := fStep_inv h
  have := frm_size (d := d) (by omega)
  rw [app_size]
  omega
theorem Scans.all : ∀ (n : Nat) (s : ByteArray), s.size ≤ n → ∃ l t, Scans s l t
  | n, s, hn => by
    cases h : fStep s with
    | none => exact ⟨[], s, .nil h⟩
    | some p =>
      obtain ⟨d, r⟩ := p
      have := step_less h
      cases n with
      | zero => omega
      | succ n =>
        obtain ⟨l, t, k⟩ := Scans.all n r (by omega)
        exact ⟨d :: l, t, .cons h k⟩
theorem Scans.det {s t t' : ByteArray} {l l' : List ByteArray} (h : Scans s l t) (k : Scans s l' t') : l = l' ∧ t = t' := by
  induction h generalizing l' t' with
  | nil h =>
    cases k with
    | nil _ => exact ⟨rfl, rfl⟩
    | cons h2 _ => rw [h] at h2; cases h2
  | cons h k2 ih =>
    cases k with
    | nil h2 => rw [h] at h2; cases h2
    | cons h2 k3 =>
      rw [h] at h2
      simp only [Option.some.injEq, Prod.mk.injEq] at h2
      obtain ⟨rfl, rfl⟩ := h2
      obtain ⟨rfl, rfl⟩ := ih k3
      exact ⟨rfl, rfl⟩
theorem Scans.is {s t : ByteArray} {l : List ByteArray} (h : Scans s l t) : s = whole l ++ t ∧ (∀ d ∈ l, d.size ≤ 4096) ∧ fStep t = none := by
  induction h with
  | nil h => exact ⟨(nil_app _).symm, by simp, h⟩
  | cons h k ih =>
    obtain ⟨h1, h2⟩ := fStep_inv h
    refine ⟨by rw [h1, ih.1, whole, app_assoc], fun x hx => ?_, ih.2.2⟩
    rcases List.mem_cons.1 hx with rfl | hx
    · exact h2
    · exact ih.2.1 x hx
theorem Scans.of {b t : ByteArray} {l' : List ByteArray} (h : Scans b l' t) : ∀ l : List ByteArray, (∀ d ∈ l, d.size ≤ 4096) → Scans (whole l ++ b) (l ++ l') t
  | [], _ => by rw [whole, nil_app]; exact h
  | d :: l, hl => by
    rw [whole, app_assoc]
    exact .cons (fStep_frm (hl d (by simp)) _) (Scans.of h l fun x hx => hl x (by simp [hx]))
theorem frame_tells (k : Nat) (hk : 5000 ≤ k) (d : ByteArray) (hs : d.size ≤ 140737488351232) : frame_Frame.f k d = some (if d.size ≤ 4096 then (frm d, 0) else (⟨#[]⟩, 3)) := by
  unfold frame_Frame.f
  by_cases h : d.size ≤ 4096
  · have hm := may_small (n := d.size) (by omega)
    have h9 := numS_size hm
    rw [if_neg (by omega), if_pos h, number_tells k (by omega), if_pos (show -1152921504606846976 ≤ (d.size : Int) ∧ (d.size : Int) ≤ 1152921504606846976 from hm), Option.bind_some]
    show (if (numS (d.size : Int)).size + d.size ≤ 9223372036854775807 then _ else none) = _
    rw [if_pos (by omega), of_check k d (by omega) (by omega) (by omega), Option.bind_some, bytes_check k _ (by omega), Option.bind_some]
    show (if (numS (d.size : Int) ++ d).size + (B4 d).size ≤ 9223372036854775807 then some (frm d, (0 : Int)) else none) = _
    rw [if_pos (by rw [app_size, B4_size]; omega)]
  · rw [if_pos (by omega), if_neg h]
theorem scan_l1 (k : Nat) (hk : 5000 ≤ k) (a0 : ByteArray) {s t : ByteArray} {l : List ByteArray} (h : Scans s l t) : ∀ (m : Nat) (out : List ByteArray), s.size < m → s.size ≤ 1000000 → out.length + s.size ≤ 1000000 →
    frame_Scan.l1 k a0 m s (s.size : Int) out = some (out ++ l, wrap64 ((a0.size : Int) - t.size)) := by
  have common : ∀ (s : ByteArray) (m : Nat) (out : List ByteArray), s.size ≤ 1000000 → out.length + s.size ≤ 1000000 → frame_Scan.l1 k a0 (m + 1) s (s.size : Int) out = (match fStep s with
      | none => some (out, wrap64 ((a0.size : Int) - s.size))
      | some (d, r) => frame_Scan.l1 k a0 m r (r.size : Int) (out ++ [d])) := by
    intro s m out hs ho
    unfold fStep
    rw [frame_Scan.l1, read_tells k (by omega) s (by omega), Option.bind_some]
    have hinv := fun n r (h : rdGo s 9 0 = (n, r, 0)) => read_inv h
    generalize rdGo s 9 0 = q at *
    obtain ⟨n, r, e⟩ := q
    dsimp only
    by_cases c1 : e = 0
    · subst c1
      obtain ⟨hm, hsr⟩ := hinv n r rfl
      have hr : r.size ≤ s.size := by rw [hsr, app_size]; omega
      rw [if_pos rfl]
      by_cases c2 : n < 0
      · rw [if_pos c2, if_neg (fun h => by omega)]
      · rw [if_neg c2]
        by_cases c3 : n > 4096
        · rw [if_pos c3, if_neg (fun h => by omega)]
        · have hw : wrap64 (n + 4) = n + 4 := by unfold wrap64; omega
          rw [if_neg c3, hw]
          by_cases c4 : n + 4 > (r.size : Int)
          · rw [if_pos c4, if_neg (fun h => by omega)]
          · have hx : (r.extract 0 n.toNat).size ≤ 4096 := by rw [ext_size _ _ _ (by omega)]; omega
            rw [if_neg c4, if_pos (by omega), if_pos (by omega), if_pos (by omega), if_pos (by omega), if_pos (by omega), of_check k _ (by omega) (by omega) (by omega), Option.bind_some, bytes_check k _ (by omega), Option.bind_some, beq_is]
            by_cases c5 : r.extract n.toNat (n + 4).toNat = strOfNums (b4 (con 0 (r.extract 0 n.toNat)))
            · rw [if_pos (decide_eq_true c5), if_pos (by simp; omega), if_pos ⟨rfl, by omega, by omega, by omega, c5⟩]
            · rw [if_neg (by simpa using c5), if_neg (fun h => c5 h.2.2.2.2)]
    · rw [if_neg c1, if_neg (fun h => c1 h.1)]
  induction h with
  | nil h =>
    intro m out hm _ _
    obtain ⟨m, rfl⟩ : ∃ q, m = q + 1 := ⟨m - 1, by omega⟩
    rw [common _ _ _ (by omega) (by omega), h, List.append_nil]
  | cons h k ih =>
    intro m out hm h1 h2
    obtain ⟨m, rfl⟩ : ∃ q, m = q + 1 := ⟨m - 1, by omega⟩
    have hl := step_less h
    rw [common _ _ _ (by omega) (by omega), h]
    dsimp only
    rw [ih m _ (by omega) (by omega) (by simp; omega), List.append_assoc]
    rfl
theorem scan_tells {s t : ByteArray} {l : List ByteArray} (h : Scans s l t) (k : Nat) (hk : 5000 ≤ k) (hs : s.size < k) (hs2 : s.size ≤ 1000000) : frame_Scan.f k s = some (l, ((s.size - t.size : Nat) : Int)) := by
  unfold frame_Scan.f
  rw [scan_l1 k hk s h k [] hs hs2 (by simp; omega)]
  have h1 := congrArg ByteArray.size h.is.1
  rw [app_size] at h1
  rw [show wrap64 ((s.size : Int) - t.size) = ((s.size - t.size : Nat) : Int) by unfold wrap64; omega]
  rfl
theorem same_self (k : Nat) (a : List ByteArray) (hk : a.length < k) (hs : a.length < 1000000) : tarryref01_Same.f k a a = some true := by
  unfold tarryref01_Same.f
  rw [if_pos rfl]
  have key : ∀ (xs : List ByteArray) (i : Nat), a.drop i = xs → tarryref01_Same.r1 k a a xs i = some true := by
    intro xs
    induction xs with
    | nil => intro i _; rfl
    | cons x xs ih =>
      intro i hi
      obtain ⟨h1, h2, h3⟩ := drop_cons_is hi
      rw [tarryref01_Same.r1, Int.toNat_natCast, h2, Option.bind_some, beq_is, if_pos (decide_eq_true rfl), ih (i + 1) h3]
  have := tarryref01_Same.r1_eq k a a (by omega) k 0 (by omega) (by omega)
  rw [show ((0 : Nat) : Int) = 0 from rfl, List.drop_zero] at this
  rw [this, key a 0 rfl]
theorem scan_nil : fStep (⟨#[]⟩ : ByteArray) = none := by decide +kernel
theorem frm_nil : (frm ⟨#[]⟩).size = 5 := by decide +kernel
theorem Scans.wh {l : List ByteArray} (h : ∀ d ∈ l, d.size ≤ 4096) : Scans (whole l) l ⟨#[]⟩ := by
  have := Scans.of (.nil scan_nil) l h
  rwa [app_nil, List.append_nil] at this
theorem alive_tells (k : Nat) (hk : 5000 ≤ k) : tarrylaw04_alive.f k = some true := by
  have h1 := Scans.wh (l := [⟨#[]⟩]) (by intro d hd; simp only [List.mem_singleton] at hd; subst hd; decide)
  have h2 : whole [⟨#[]⟩] = frm ⟨#[]⟩ := by rw [whole, whole, app_nil]
  rw [h2] at h1
  unfold tarrylaw04_alive.f
  rw [frame_tells k hk _ (by decide), if_pos (by decide), Option.bind_some]
  dsimp only
  rw [scan_tells h1 k hk (by rw [frm_nil]; omega) (by rw [frm_nil]; decide), Option.bind_some, frm_nil]
  rfl
def cut100 (x : ByteArray) : ByteArray := x.extract 0 (mn (x.size : Int) 100).toNat
theorem cut_is (a : ByteArray) (n : Nat) (m : Int) (hm : m = n) : 0 ≤ mn (a.size : Int) m ∧ mn (a.size : Int) m ≤ (a.size : Int) ∧ (a.extract 0 (mn (a.size : Int) m).toNat).size ≤ n := by
  subst hm
  have h : mn (a.size : Int) n = ((min a.size n : Nat) : Int) := by unfold mn; split <;> omega
  rw [h, Int.toNat_natCast, ext_size _ _ _ (by omega)]
  omega
theorem few_tells (k : Nat) (hk : 10 ≤ k) (l : List ByteArray) : tarrylaw04_few.f k l = some ((l.take 8).map cut100) := by
  have h : mn (l.length : Int) 8 = ((min l.length 8 : Nat) : Int) := by unfold mn; split <;> omega
  have ht : (l.take (min l.length 8)).drop 0 = l.take 8 := by
    rw [List.drop_zero]
    rcases Nat.le_total l.length 8 with h | h
    · rw [List.take_of_length_le (by omega), List.take_of_length_le (by omega)]
    · rw [Nat.min_eq_right h]
  have hl : (l.take 8).length ≤ 8 := by rw [List.length_take]; omega
  have key : ∀ (xs ys : List ByteArray), xs.length + ys.length < 1000 → tarrylaw04_few.r1 k l xs ys = some (ys ++ xs.map cut100) := by
    intro xs
    induction xs with
    | nil => intro ys _; simp [tarrylaw04_few.r1]
    | cons x xs ih =>
      intro ys h
      simp only [List.length_cons] at h
      obtain ⟨c1, c2, _⟩ := cut_is x 100 100 rfl
      rw [tarrylaw04_few.r1, if_pos c1, if_pos c2, if_pos (by simp; omega), ih _ (by simp; omega)]
      simp [cut100]
  unfold tarrylaw04_few.f
  have := tarrylaw04_few.r1_eq k l
  rw [h, Int.toNat_natCast, ht] at this
  have h2 := this (by omega) k 0 [] (by omega) (by omega)
  rw [show ((0 : Nat) : Int) = 0 from rfl, List.drop_zero] at h2
  rw [h, if_pos (by omega), if_pos (by omega), h2, key _ [] (by simp; omega)]
  rfl
theorem few_ok {l m : List ByteArray} (h : m = (l.take 8).map cut100) : m.length ≤ 8 ∧ ∀ d ∈ m, d.size ≤ 100 := by
  subst h
  refine ⟨by rw [List.length_map, List.length_take]; omega, fun d hd => ?_⟩
  obtain ⟨x, _, rfl⟩ := List.mem_map.1 hd
  exact (cut_is x 100 100 rfl).2.2
theorem whole_small : ∀ (l : List ByteArray), (∀ d ∈ l, d.size ≤ 100) → (whole l).size ≤ 113 * l.length ∧ l.length ≤ (whole l).size
  | [], _ => by decide
  | x :: l, h => by
    have ih := whole_small l fun d hd => h d (by simp [hd])
    have h1 := h x (by simp)
    have h2 := frm_size (d := x) (by omega)
    rw [whole, app_size, List.length_cons]
    omega
/-- Any number turned into a place. -/
theorem turn_ok (a : Int) (n : Nat) (hn : n ≤ 100000) : wrap64 ((n : Int) + 1) ≠ 0 ∧ 0 ≤ (wrap64 ((wrap64 ((a.tmod (wrap64 ((n : Int) + 1))) + (n : Int))) + 1)).tmod (wrap64 ((n : Int) + 1)) ∧ (wrap64 ((wrap64 ((a.tmod (wrap64 ((n : Int) + 1))) + (n : Int))) + 1)).tmod (wrap64 ((n : Int) + 1)) ≤ n := by
  have w0 : wrap64 ((n : Int) + 1) = (n : Int) + 1 := by unfold wrap64; omega
  rw [w0]
  have h1 : a.tmod ((n : Int) + 1) < n + 1 := Int.tmod_lt_of_pos _ (by omega)
  have h2 : -((n : Int) + 1) < a.tmod ((n : Int) + 1) := by
    have := Int.tmod_lt_of_pos (-a) (b := (n : Int) + 1) (by omega)
    rw [Int.neg_tmod] at this
    omega
  generalize a.tmod ((n : Int) + 1) = q at *
  have w1 : wrap64 (q + n) = q + n := by unfold wrap64; omega
  rw [w1]
  have w2 : wrap64 (q + n + 1) = q + n + 1 := by unfold wrap64; omega
  rw [w2, Int.tmod_eq_emod_of_nonneg (by omega)]
  have h3 := Int.emod_lt_of_pos (q + n + 1) (b := (n : Int) + 1) (by omega)
  have h4 := Int.emod_nonneg (q + n + 1) (b := (n : Int) + 1) (by omega)
  omega
theorem bn_take (s : ByteArray) (n i : Nat) (h : i < n) (hn : n ≤ s.size) : bn (s.extract 0 n) i = bn s i := by
  have h1 : i < s.size := by omega
  unfold bn
  have e : (s.extract 0 n).data.toList = s.data.toList.take n := by
    rw [ByteArray.data_extract]
    simp
  rw [e, List.getD_eq_getElem?_getD, List.getElem?_take, if_pos h, ← List.getD_eq_getElem?_getD]
theorem take_len (s : ByteArray) (n : Nat) (hn : n ≤ s.size) : (s.extract 0 n).size = n := by
  rw [ByteArray.size_extract]
  omega
theorem nums_size (l : List Int) : (strOfNums l).size = l.length := by simp [strOfNums, ByteArray.size]
theorem nums_bn (l : List Int) (i : Nat) (h : i < l.length) : bn (strOfNums l) i = (l.getD i 0).toNat % 256 := by
  unfold bn strOfNums
  simp [List.getD_eq_getElem?_getD, List.getElem?_map, List.getElem?_eq_getElem h]
theorem bytes_bn (s : ByteArray) (i : Nat) : (byI s).getD i 0 = (bn s i : Int) := by
  unfold byI bn
  rw [List.getD_eq_getElem?_getD, List.getElem?_map, List.getD_eq_getElem?_getD]
  cases s.data.toList[i]? <;> rfl
/-! A burst of 32 bits changes the check. -/
theorem cstp_zero (c : Nat) (h : c < 4294967296) (hz : cstp c = 0) : c = 0 := by
  unfold cstp at hz
  split at hz
  · have := congrArg (· ^^^ 2197175160) hz
    simp only [Nat.xor_assoc, Nat.xor_self, Nat.xor_zero, Nat.zero_xor] at this
    omega
  · omega
theorem cit_zero (n c : Nat) (h : c < 4294967296) (hz : cit n c = 0) : c = 0 := by
  induction n with
  | zero => exact hz
  | succ n ih => exact ih (cstp_zero _ (cit_lt n c h) hz)
/-- What bytes of a number, as they come, make of a check of nought. -/
def cnum (E : Nat) : Nat → Nat
  | 0 => 0
  | i + 1 => cit 8 (cnum E i ^^^ (E / 256 ^ i % 256))
theorem cnum_all (E : Nat) : ∀ i, cit (8 * i) E = cnum E i ^^^ E / 256 ^ i
  | 0 => by simp [cit, cnum]
  | i + 1 => by
    have e : cit (8 * (i + 1)) E = cit 8 (cit (8 * i) E) := by rw [cit_add, Nat.mul_add, Nat.add_comm]
    rw [e, cnum_all E i]
    have e2 : E / 256 ^ i = 2 ^ 8 * (E / 256 ^ (i + 1)) ^^^ E / 256 ^ i % 256 := by
      have := xor_split (E / 256 ^ i)
      rw [Nat.div_div_eq_div_mul, ← Nat.pow_succ] at this
      exact this
    rw [show cnum E i ^^^ E / 256 ^ i = (cnum E i ^^^ (E / 256 ^ i % 256)) ^^^ 2 ^ 8 * (E / 256 ^ (i + 1)) by rw [Nat.xor_assoc, Nat.xor_comm (E / 256 ^ i % 256), ← e2]]
    rw [cit_xor, cit_pow]
    rfl
theorem cupto_num (c E : Nat) (x y : ByteArray) : ∀ n, (∀ i, i < n → bn x i = bn y i ^^^ (E / 256 ^ i % 256)) → cupto c x n = cupto c y n ^^^ cnum E n
  | 0, _ => by simp [cupto, cnum]
  | n + 1, h => by
    show cbyte (cupto c x n) (bn x n) = cbyte (cupto c y n) (bn y n) ^^^ cit 8 (cnum E n ^^^ (E / 256 ^ n % 256))
    rw [cupto_num c E x y n (fun i hi => h i (by omega)), h n (by omega), cbyte_bits, cbyte_bits, ← cit_xor]
    congr 1
    ac_rfl
/-- The bits that k rounds turn. -/
def ek (bits at' n : Nat) : Nat → Nat
  | 0 => 0
  | k + 1 => if bits.testBit k = true ∧ at' + k < 8 * n then ek bits at' n k ^^^ 2 ^ (at' + k) else ek bits at' n k
theorem ek_bit (bits a n : Nat) : ∀ k p, (ek bits a n k).testBit p = (decide (a ≤ p ∧ p < a + k ∧ p < 8 * n) && bits.testBit (p - a))
  | 0, p => by
    have : ¬ (a ≤ p ∧ p < a + 0 ∧ p < 8 * n) := by omega
    simp [ek, this]
    omega
  | k + 1, p => by
    have ih := ek_bit bits a n k p
    unfold ek
    by_cases hp : p = a + k
    · subst hp
      have h0 : ¬ (a ≤ a + k ∧ a + k < a + k ∧ a + k < 8 * n) := by omega
      rw [decide_eq_false h0, Bool.false_and] at ih
      rw [Nat.add_sub_cancel_left]
      by_cases hc : bits.testBit k = true ∧ a + k < 8 * n
      · rw [if_pos hc, Nat.testBit_xor, ih, Nat.testBit_two_pow_self, hc.1, decide_eq_true (by omega)]
        rfl
      · rw [if_neg hc, ih]
        by_cases hb : bits.testBit k = true
        · have : ¬ (a ≤ a + k ∧ a + k < a + (k + 1) ∧ a + k < 8 * n) := fun h => hc ⟨hb, h.2.2⟩
          rw [decide_eq_false this, Bool.false_and]
        · rw [Bool.eq_false_iff.mpr hb, Bool.and_false]
    · have e : decide (a ≤ p ∧ p < a + (k + 1) ∧ p < 8 * n) = decide (a ≤ p ∧ p < a + k ∧ p < 8 * n) := by
        apply decide_eq_decide.mpr
        omega
      rw [e, ← ih]
      split
      · rw [Nat.testBit_xor, Nat.testBit_two_pow_of_ne (by omega), Bool.xor_false]
      · rfl
theorem ek_all (bits a n : Nat) (ha : a ≤ 8 * n) (hb : bits < 4294967296) : ek bits a n 32 = 2 ^ a * (bits % 2 ^ (8 * n - a)) := by
  apply Nat.eq_of_testBit_eq
  intro p
  rw [ek_bit, Nat.testBit_two_pow_mul, Nat.testBit_mod_two_pow]
  by_cases h1 : a ≤ p
  · by_cases h2 : p < a + 32
    · by_cases h3 : p < 8 * n
      · simp [h1, h2, h3, show p - a < 8 * n - a by omega]
      · simp [h1, h3, show ¬ p - a < 8 * n - a by omega]
    · have : bits.testBit (p - a) = false := Nat.testBit_lt_two_pow (Nat.lt_of_lt_of_le (show bits < 2 ^ 32 from hb) (Nat.pow_le_pow_right (by decide) (by omega)))
      simp [this]
  · simp [h1]
theorem ek_lt (bits a n : Nat) (k : Nat) : ek bits a n k < 2 ^ (8 * n) := by
  apply Nat.lt_pow_two_of_testBit
  intro p hp
  rw [ek_bit, decide_eq_false (by omega), Bool.false_and]
theorem pow256 (i : Nat) : (256 : Nat) ^ i = 2 ^ (8 * i) := by rw [show (256 : Nat) = 2 ^ 8 from rfl, ← Nat.pow_mul]
/-- One byte of a number one bit of which is turned. -/
theorem byte_turn (E p i : Nat) : (E ^^^ 2 ^ p) / 256 ^ i % 256 = (E / 256 ^ i % 256) ^^^ (if i = p / 8 then 2 ^ (p % 8) else 0) := by
  apply Nat.eq_of_testBit_eq
  intro q
  rw [pow256, show (256 : Nat) = 2 ^ 8 from rfl, Nat.testBit_mod_two_pow, Nat.testBit_div_two_pow, Nat.testBit_xor, Nat.testBit_xor, Nat.testBit_mod_two_pow, Nat.testBit_div_two_pow]
  by_cases hq : q < 8
  · rw [decide_eq_true hq, Bool.true_and, Bool.true_and]
    congr 1
    by_cases hi : i = p / 8
    · rw [if_pos hi]
      by_cases he : p = q + 8 * i
      · rw [← he, Nat.testBit_two_pow_self, show p % 8 = q by omega, Nat.testBit_two_pow_self]
      · rw [Nat.testBit_two_pow_of_ne he, Nat.testBit_two_pow_of_ne (by omega)]
    · rw [if_neg hi, Nat.zero_testBit, Nat.testBit_two_pow_of_ne (by omega)]
  · rw [decide_eq_false hq, Bool.false_and, Bool.false_and, Bool.false_xor]
    by_cases hi : i = p / 8
    · rw [if_pos hi, Nat.testBit_two_pow_of_ne (by omega)]
    · rw [if_neg hi, Nat.zero_testBit]
/-- The row behind k rounds. -/
def brow (s : ByteArray) (bits a k : Nat) : List Int := (List.range s.size).map fun i => ((bn s i ^^^ (ek bits a s.size k / 256 ^ i % 256) : Nat) : Int)
theorem brow_length (s : ByteArray) (bits a k : Nat) : (brow s bits a k).length = s.size := by simp [brow]
theorem brow_at (s : ByteArray) (bits a k i : Nat) (h : i < s.size) : (brow s bits a k).getD i 0 = ((bn s i ^^^ (ek bits a s.size k / 256 ^ i % 256) : Nat) : Int) := by
  simp [brow, List.getD_eq_getElem?_getD, h]
theorem brow_start (s : ByteArray) (bits a : Nat) : byI s = brow s bits a 0 := by
  apply List.ext_getElem
  · rw [byI_len, brow_length]
  · intro t h1 h2
    have ht : t < s.size := by rw [brow_length] at h2; exact h2
    have e1 := bytes_bn s t
    have e2 := brow_at s bits a 0 t ht
    simp only [ek, Nat.zero_div, Nat.zero_mod, Nat.xor_zero] at e2
    rw [List.getD_eq_getElem?_getD, List.getElem?_eq_getElem h1] at e1
    rw [List.getD_eq_getElem?_getD, List.getElem?_eq_getElem h2] at e2
    exact e1.trans e2.symm
theorem brow_same (s : ByteArray) (bits a k : Nat) (h : ¬ (bits.testBit k = true ∧ a + k < 8 * s.size)) : brow s bits a (k + 1) = brow s bits a k := by
  unfold brow
  rw [show ek bits a s.size (k + 1) = ek bits a s.size k from if_neg h]
theorem brow_set (s : ByteArray) (bits a k : Nat) (h : bits.testBit k = true ∧ a + k < 8 * s.size) :
    (brow s bits a k).set ((a + k) / 8) (((bn s ((a + k) / 8) ^^^ (ek bits a s.size k / 256 ^ ((a + k) / 8) % 256)) ^^^ 2 ^ ((a + k) % 8) : Nat) : Int) = brow s bits a (k + 1) := by
  have hi : (a + k) / 8 < s.size := by omega
  have hE : ek bits a s.size (k + 1) = ek bits a s.size k ^^^ 2 ^ (a + k) := if_pos h
  apply List.ext_getElem
  · rw [List.length_set, brow_length, brow_length]
  · intro t h1 h2
    have ht : t < s.size := by rw [brow_length] at h2; exact h2
    have e1 := brow_at s bits a k t ht
    have e2 := brow_at s bits a (k + 1) t ht
    rw [hE, byte_turn] at e2
    rw [List.getD_eq_getElem?_getD, List.getElem?_eq_getElem (by rw [brow_length]; exact ht)] at e1
    rw [List.getD_eq_getElem?_getD, List.getElem?_eq_getElem h2] at e2
    rw [List.getElem_set]
    by_cases hti : (a + k) / 8 = t
    · subst hti
      rw [if_pos rfl]
      rw [if_pos rfl] at e2
      refine Eq.trans ?_ e2.symm
      rw [Nat.xor_assoc]
    · rw [if_neg hti]
      rw [if_neg (Ne.symm hti), Nat.xor_zero] at e2
      exact e1.trans e2.symm
theorem brow_lt (s : ByteArray) (bits a k i : Nat) : bn s i ^^^ (ek bits a s.size k / 256 ^ i % 256) < 256 := xor8_lt (bn_lt s i) (Nat.mod_lt _ (by decide))
theorem brow_bn (s : ByteArray) (bits a k i : Nat) (h : i < s.size) : bn (strOfNums (brow s bits a k)) i = bn s i ^^^ (ek bits a s.size k / 256 ^ i % 256) := by
  rw [nums_bn _ _ (by rw [brow_length]; exact h), brow_at s bits a k i h, Int.toNat_natCast]
  exact Nat.mod_eq_of_lt (brow_lt s bits a k i)
theorem list_of_bn (x y : ByteArray) (hz : x.size = y.size) (h : ∀ i, i < x.size → bn x i = bn y i) : x.data.toList = y.data.toList := by
  have hx : x.data.toList.length = x.size := Array.length_toList
  have hy : y.data.toList.length = y.size := Array.length_toList
  apply List.ext_getElem
  · rw [hx, hy, hz]
  · intro i h1 h2
    have e := h i (by omega)
    unfold bn at e
    rw [List.getD_eq_getElem?_getD, List.getElem?_eq_getElem h1, List.getD_eq_getElem?_getD, List.getElem?_eq_getElem h2] at e
    exact UInt8.toNat_inj.mp e
/-- Either nothing was turned, or the check is another one. -/
theorem burst (s : ByteArray) (bits a : Nat) (hb : bits < 4294967296) (ha : a ≤ 8 * s.size) : strOfNums (brow s bits a 32) = s ∨ con 0 (strOfNums (brow s bits a 32)) ≠ con 0 s := by
  have hsz : (strOfNums (brow s bits a 32)).size = s.size := by rw [nums_size, brow_length]
  have hall := ek_all bits a s.size ha hb
  by_cases he : ek bits a s.size 32 = 0
  · left
    apply ByteArray.ext
    apply Array.toList_inj.mp
    refine list_of_bn _ _ hsz (fun i hi => ?_)
    rw [brow_bn s bits a 32 i (by omega), he]
    simp
  · right
    intro hc
    apply he
    have h1 := cupto_num (0 ^^^ 4294967295) (ek bits a s.size 32) (strOfNums (brow s bits a 32)) s s.size (fun i hi => brow_bn s bits a 32 i hi)
    unfold con at hc
    rw [hsz] at hc
    have hc2 := congrArg (· ^^^ 4294967295) hc
    simp only [Nat.xor_assoc, Nat.xor_self, Nat.xor_zero] at hc2
    rw [hc2] at h1
    have hz : cnum (ek bits a s.size 32) s.size = 0 := by
      have := congrArg (fun v => cupto (0 ^^^ 4294967295) s s.size ^^^ v) h1
      simp only [← Nat.xor_assoc, Nat.xor_self, Nat.zero_xor] at this
      exact this.symm
    have h2 := cnum_all (ek bits a s.size 32) s.size
    rw [hz, pow256, Nat.div_eq_of_lt (ek_lt bits a s.size 32), Nat.xor_zero] at h2
    rw [hall] at h2 ⊢
    have h3 : cit (8 * s.size) (2 ^ a * (bits % 2 ^ (8 * s.size - a))) = cit (8 * s.size - a) (bits % 2 ^ (8 * s.size - a)) := by
      rw [show 8 * s.size = (8 * s.size - a) + a by omega, ← cit_add, show 8 * s.size - a + a - a = 8 * s.size - a by omega, cit_pow]
    rw [h3] at h2
    rw [cit_zero _ _ (Nat.lt_of_le_of_lt (Nat.mod_le _ _) hb) h2, Nat.mul_zero]
theorem b4_inj {c d : Nat} (hc : c < 4294967296) (hd : d < 4294967296) (h : strOfNums (b4 c) = strOfNums (b4 d)) : c = d := by
  have ok : ∀ c, okB (b4 c) := by
    intro c x hx
    simp only [b4, List.mem_cons, List.not_mem_nil, or_false] at hx
    omega
  have h2 := congrArg byI h
  rw [byI_num (ok c), byI_num (ok d)] at h2
  simp only [b4, List.cons.injEq] at h2
  omega
/-- A record whose bytes were changed is none. -/
theorem hurt_none {x y : ByteArray} (hx : x.size ≤ 4096) (hs : y.size = x.size) (hc : con 0 y ≠ con 0 x) (r : ByteArray) : fStep (numS x.size ++ (y ++ (B4 x ++ r))) = none := by
  unfold fStep
  rw [read_num (may_small (by omega))]
  have e1 : (y ++ (B4 x ++ r)).extract 0 x.size = y := by rw [← hs]; exact ext_left _ _
  have e2 : (y ++ (B4 x ++ r)).extract x.size (x.size + 4) = B4 x := by
    apply byI_inj
    rw [byI_ext, byI_app, byI_app, ← hs, size_byI y, ← List.append_assoc, List.take_left' (by rw [List.length_append, ← size_byI, ← size_byI, B4_size]), List.drop_left]
  have e4 : ((x.size : Int) + 4).toNat = x.size + 4 := by omega
  simp only [Int.toNat_natCast, e4, e1, e2]
  rw [if_neg]
  rintro ⟨_, _, _, _, h⟩
  exact hc (b4_inj (con_lt _ _ (by decide)) (con_lt _ _ (by decide)) h).symm
theorem turn0_ok (a : Int) (n : Nat) (h0 : 0 < n) (hn : n ≤ 100000) : ∃ w : Nat, w < n ∧ (wrap64 ((a.tmod (n : Int)) + (n : Int))).tmod (n : Int) = (w : Int) := by
  have h1 : a.tmod (n : Int) < n := Int.tmod_lt_of_pos _ (by omega)
  have h2 : -(n : Int) < a.tmod (n : Int) := by
    have := Int.tmod_lt_of_pos (-a) (b := (n : Int)) (by omega)
    rw [Int.neg_tmod] at this
    omega
  generalize a.tmod (n : Int) = q at *
  have w1 : wrap64 (q + n) = q + n := by unfold wrap64; omega
  rw [w1, Int.tmod_eq_emod_of_nonneg (by omega)]
  have h3 := Int.emod_lt_of_pos (q + n) (b := (n : Int)) (by omega)
  have h4 := Int.emod_nonneg (q + n) (b := (n : Int)) (by omega)
  exact ⟨((q + n) % (n : Int)).toNat, by omega, by omega⟩
theorem mid_get {α : Type} (a b c : List α) (i : Nat) (h : i < b.length) : (a ++ b ++ c)[a.length + i]? = b[i]? := by
  rw [List.append_assoc, List.getElem?_append_right (by omega), Nat.add_sub_cancel_left, List.getElem?_append_left h]
theorem mid_set {α : Type} (a b c : List α) (i : Nat) (x : α) (h : i < b.length) : (a ++ b ++ c).set (a.length + i) x = a ++ b.set i x ++ c := by
  rw [List.append_assoc, List.set_append_right _ _ (by omega), Nat.add_sub_cancel_left, List.set_append_left _ _ h, List.append_assoc]
theorem shr_is (bits kk : Nat) (h : kk < 32) : (bits : Int).fdiv (2 ^ min kk IntKind.u32.bits) = ((bits / 2 ^ kk : Nat) : Int) := by
  have e : min kk IntKind.u32.bits = kk := Nat.min_eq_left (show kk ≤ 32 by omega)
  have e2 : (2 : Int) ^ kk = ((2 ^ kk : Nat) : Int) := (Int.natCast_pow 2 kk).symm
  rw [e, e2, Int.fdiv_eq_ediv_of_nonneg _ (Int.natCast_nonneg _)]
  rfl
theorem shl_is (r : Nat) (h : r < 8) : IntKind.u8.wrap ((1 : Int) * 2 ^ min r IntKind.u8.bits) = ((2 ^ r : Nat) : Int) := by
  have e : min r IntKind.u8.bits = r := Nat.min_eq_left (show r ≤ 8 by omega)
  have e2 : (2 : Int) ^ r = ((2 ^ r : Nat) : Int) := (Int.natCast_pow 2 r).symm
  have hp2 : 2 ^ r < 256 := Nat.lt_of_le_of_lt (Nat.pow_le_pow_right (n := 2) (by decide) (show r ≤ 7 by omega)) (by decide)
  rw [e, e2, IntKind.wrap_u8, Int.one_mul]
  exact Int.emod_eq_of_lt (Int.natCast_nonneg _) (Int.ofNat_lt.2 hp2)
theorem num_is (p kk g : Nat) (hp : p ≤ 800000) (hk : kk < 32) (hg : g ≤ 100000) : wrap64 ((kk : Int) + 1) = ((kk + 1 : Nat) : Int) ∧ wrap64 ((p : Int) + (kk : Int)) = ((p + kk : Nat) : Int) ∧ IntKind.i64.wrap (((p + kk : Nat) : Int).tdiv 8) = (((p + kk) / 8 : Nat) : Int) ∧ wrap64 ((g : Int) + (((p + kk) / 8 : Nat) : Int)) = ((g + (p + kk) / 8 : Nat) : Int) ∧ ((p + kk : Nat) : Int).tmod 8 = (((p + kk) % 8 : Nat) : Int) := by
  have hq : (p + kk) / 8 ≤ 200000 := by omega
  refine ⟨by unfold wrap64; omega, by unfold wrap64; omega, ?_, ?_, ?_⟩
  · rw [IntKind.wrap_i64, Int.tdiv_eq_ediv_of_nonneg (Int.natCast_nonneg _)]
    have : ((p + kk : Nat) : Int) / 8 = (((p + kk) / 8 : Nat) : Int) := by omega
    rw [this]
    generalize (p + kk) / 8 = q at *
    omega
  · generalize (p + kk) / 8 = q at *
    unfold wrap64
    omega
  · rw [Int.tmod_eq_emod_of_nonneg (Int.natCast_nonneg _)]
    omega
/-- A fact that omega need not see. -/
def Keep (p : Prop) : Prop := p
theorem hurt_loop (k : Nat) (a1 a2 : Int) (bits : Nat) (hbits : bits < 4294967296) (l : List ByteArray) (pre x post : ByteArray) (hsz : (pre ++ x ++ post).size ≤ 100000) (p : Nat) (hp : p < 8 * x.size)
    (hP : Keep ((wrap64 ((a2.tmod ((8 * x.size : Nat) : Int)) + ((8 * x.size : Nat) : Int))).tmod ((8 * x.size : Nat) : Int) = (p : Int))) :
    ∀ (d kk m : Nat), kk + d = 32 → d < m →
    tarrylaw04_FrameHurt.l38 k a1 a2 (bits : Int) (pre.size : Int) l (pre ++ x ++ post) x m (kk : Int) (byI pre ++ brow x bits p kk ++ byI post) =
    tarrylaw04_FrameHurt.l38 k a1 a2 (bits : Int) (pre.size : Int) l (pre ++ x ++ post) x 1 32 (byI pre ++ brow x bits p 32 ++ byI post) := by
  have hz : pre.size + x.size + post.size ≤ 100000 := by rw [app_size, app_size] at hsz; exact hsz
  clear hsz
  have hN : wrap64 (8 * (x.size : Int)) = ((8 * x.size : Nat) : Int) := by unfold wrap64; omega
  intro d
  induction d with
  | zero =>
    intro kk m hk hm
    obtain ⟨m, rfl⟩ : ∃ q, m = q + 1 := ⟨m - 1, by omega⟩
    obtain rfl : kk = 32 := by omega
    rw [tarrylaw04_FrameHurt.l38, if_neg (show ¬ (((32 : Nat) : Int) < 32) by decide), tarrylaw04_FrameHurt.l38, if_neg (show ¬ ((32 : Int) < 32) by decide)]
  | succ d ih =>
    intro kk m hk hm
    obtain ⟨m, rfl⟩ : ∃ q, m = q + 1 := ⟨m - 1, by omega⟩
    have ih2 := ih (kk + 1) m (by omega) (by omega)
    obtain ⟨hw, hpk, hdv, hpl, hmd⟩ := num_is p kk pre.size (by omega) (by omega) (by omega)
    have hsh := shr_is bits kk (by omega)
    have hbt : Go.bits .and .u32 ((bits / 2 ^ kk : Nat) : Int) 1 = ((bits / 2 ^ kk % 2 : Nat) : Int) := and1 _ (by have := Nat.div_le_self bits (2 ^ kk); omega)
    rw [tarrylaw04_FrameHurt.l38, if_pos (by omega), if_pos (by omega)]
    have hP2 : (wrap64 ((a2.tmod ((8 * x.size : Nat) : Int)) + ((8 * x.size : Nat) : Int))).tmod ((8 * x.size : Nat) : Int) = (p : Int) := hP
    simp only [hN, hP2, hpk, hdv, hpl, hmd, hsh, hbt, hw, Int.toNat_natCast]
    clear hP2 hdv hpl hmd hsh hbt hpk hw hP
    by_cases ht : bits.testBit kk = true
    · have hb : ((bits / 2 ^ kk % 2 : Nat) : Int) = 1 := by
        rw [Nat.testBit_eq_decide_div_mod_eq, decide_eq_true_eq] at ht
        omega
      rw [if_pos hb]
      by_cases hc : p + kk < 8 * x.size
      · have hq : (p + kk) / 8 < x.size := by omega
        have hr : (p + kk) % 8 < 8 := Nat.mod_lt _ (by decide)
        have hp2 : 2 ^ ((p + kk) % 8) < 256 := Nat.lt_of_le_of_lt (Nat.pow_le_pow_right (n := 2) (by decide) (show (p + kk) % 8 ≤ 7 by omega)) (by decide)
        have hu := shl_is ((p + kk) % 8) hr
        have hget : (byI pre ++ brow x bits p kk ++ byI post)[pre.size + (p + kk) / 8]? = some ((bn x ((p + kk) / 8) ^^^ (ek bits p x.size kk / 256 ^ ((p + kk) / 8) % 256) : Nat) : Int) := by
          have e := mid_get (byI pre) (brow x bits p kk) (byI post) ((p + kk) / 8) (by rw [brow_length]; exact hq)
          rw [← size_byI pre] at e
          rw [e]
          have e3 := brow_at x bits p kk ((p + kk) / 8) hq
          rw [List.getD_eq_getElem?_getD] at e3
          rw [List.getElem?_eq_getElem (by rw [brow_length]; exact hq)] at e3 ⊢
          rw [← e3]
          rfl
        rw [if_pos (by omega), if_pos (by omega), if_pos (by rw [app_size, app_size]; omega), hget, Option.bind_some, if_pos (by omega), hu, x8 _ _ (brow_lt x bits p kk _) hp2, if_pos (by rw [List.length_append, List.length_append, ← size_byI, ← size_byI, brow_length]; omega)]
        have e := mid_set (byI pre) (brow x bits p kk) (byI post) ((p + kk) / 8) (((bn x ((p + kk) / 8) ^^^ (ek bits p x.size kk / 256 ^ ((p + kk) / 8) % 256)) ^^^ 2 ^ ((p + kk) % 8) : Nat) : Int) (by rw [brow_length]; exact hq)
        rw [← size_byI pre, brow_set x bits p kk ⟨ht, hc⟩] at e
        rw [e]
        exact ih2
      · rw [if_neg (by omega), ← brow_same x bits p kk (fun h => hc h.2)]
        exact ih2
    · have hb : ¬ ((bits / 2 ^ kk % 2 : Nat) : Int) = 1 := by
        rw [Nat.testBit_eq_decide_div_mod_eq, decide_eq_true_eq] at ht
        omega
      rw [if_neg hb, ← brow_same x bits p kk (fun h => ht h.1)]
      exact ih2
theorem whole_app : ∀ (l m : List ByteArray), whole (l ++ m) = whole l ++ whole m
  | [], m => by rw [whole, nil_app]; rfl
  | x :: l, m => by rw [List.cons_append, whole, whole, whole_app l m, app_assoc]
theorem from_is (a b c : Nat) (h1 : a ≤ 20000) (h2 : b ≤ 20000) (h3 : c ≤ 20000) : wrap64 (wrap64 (wrap64 ((a : Int) + ((b + c + 4 : Nat) : Int)) - 4) - (c : Int)) = ((a + b : Nat) : Int) := by
  unfold wrap64
  omega
theorem FrameHurt : tarrylaw04_FrameHurt.Pure := by
  intro l0 a1 a2 a3 _ _ _ ha3
  refine ⟨20000, ?_⟩
  unfold tarrylaw04_FrameHurt.f
  rw [few_tells 20000 (by decide), Option.bind_some]
  generalize hl : (l0.take 8).map cut100 = l
  obtain ⟨q1, q2⟩ := few_ok hl.symm
  obtain ⟨w1, w2⟩ := whole_small l q2
  have hal := alive_tells 20000 (by decide)
  by_cases hn : (l.length : Int) = 0
  · rw [if_pos hn, tarrylaw04_FrameHurt.j19, if_pos rfl, hal]
    rfl
  rw [if_neg hn]
  by_cases h3 : a3 = 0
  · rw [tarrylaw04_FrameHurt.j19, if_pos (by subst h3; rfl), hal]
    rfl
  rw [tarrylaw04_FrameHurt.j19, if_neg (by simpa using h3), if_pos hn]
  obtain ⟨b1, b2⟩ : 0 ≤ a3 ∧ a3 < 4294967296 := by
    simp [Lit.wf, IntKind.min, IntKind.max, IntKind.signed, IntKind.bits] at ha3
    omega
  obtain ⟨bits, rfl⟩ : ∃ q : Nat, a3 = (q : Int) := ⟨a3.toNat, by omega⟩
  obtain ⟨w, hw, hW⟩ := turn0_ok a1 l.length (by omega) (by omega)
  obtain ⟨x, hx⟩ : ∃ x, l[w]? = some x := ⟨l[w], List.getElem?_eq_getElem hw⟩
  have hxs := q2 x (List.mem_of_getElem? hx)
  have hall : ∀ d ∈ l, d.size ≤ 4096 := fun d hd => by have := q2 d hd; omega
  have hsp : l = l.take w ++ x :: l.drop (w + 1) := by
    have h1 := (List.take_append_drop w l).symm
    rw [List.drop_eq_getElem_cons hw] at h1
    rw [List.getElem?_eq_getElem hw] at hx
    rw [← Option.some.inj hx]
    exact h1
  have hws : whole l = whole (l.take w) ++ numS x.size ++ x ++ (B4 x ++ whole (l.drop (w + 1))) := by
    conv => lhs; rw [hsp]
    rw [whole_app, whole, frm]
    simp only [app_assoc]
  have hfs : (frm x).size = (numS x.size).size + x.size + 4 := by rw [frm, app_size, app_size, B4_size]
  have hwz := congrArg ByteArray.size hws
  rw [app_size, app_size, app_size, app_size, B4_size] at hwz
  have key : ∀ (xs : List ByteArray) (i : Nat), l.drop i = xs → i ≤ l.length → tarrylaw04_FrameHurt.r33 20000 a1 a2 (bits : Int) l xs i (whole (l.take i)) (if w < i then (((whole (l.take w)).size + (numS x.size).size : Nat) : Int) else 0) = tarrylaw04_FrameHurt.j32 20000 a1 a2 (bits : Int) l (whole l) (((whole (l.take w)).size + (numS x.size).size : Nat) : Int) := by
    intro xs
    induction xs with
    | nil =>
      intro i hi hi2
      have := drop_nil_is hi
      rw [tarrylaw04_FrameHurt.r33, if_pos (by omega), List.take_of_length_le (by omega)]
    | cons y ys ih =>
      intro i hi _
      obtain ⟨h1, h2, h3⟩ := drop_cons_is hi
      have hy := q2 y (List.mem_of_getElem? h2)
      have ht : whole (l.take i) ++ frm y = whole (l.take (i + 1)) := by
        rw [List.take_add_one, h2, whole_app]
        show _ = _ ++ whole [y]
        rw [whole, whole, app_nil]
      have hle : (whole (l.take (i + 1))).size ≤ (whole l).size := by
        have := congrArg (fun l => (whole l).size) (List.take_append_drop (i + 1) l)
        rw [whole_app, app_size] at this
        omega
      have hts := congrArg ByteArray.size ht
      rw [app_size] at hts
      have ih2 := ih (i + 1) h3 (by omega)
      rw [tarrylaw04_FrameHurt.r33, frame_tells 20000 (by decide) y (by omega), if_pos (by omega), Option.bind_some]
      dsimp only
      rw [if_pos rfl, hW]
      by_cases hiw : i = w
      · subst hiw
        obtain rfl : y = x := by rw [h2] at hx; exact Option.some.inj hx
        rw [if_pos rfl, if_pos (by omega), ht]
        rw [if_pos (by omega)] at ih2
        have e : wrap64 (wrap64 (wrap64 (((whole (l.take i)).size : Int) + ((frm y).size : Int)) - 4) - (y.size : Int)) = (((whole (l.take i)).size + (numS y.size).size : Nat) : Int) := by
          rw [hfs]
          exact from_is _ _ _ (by omega) (by omega) (by omega)
        rw [e]
        exact ih2
      · rw [if_neg (by omega), if_pos (by omega), ht]
        by_cases hlt : w < i
        · rw [if_pos (by omega)] at ih2 ⊢
          exact ih2
        · rw [if_neg (by omega)] at ih2 ⊢
          exact ih2
  have h2 := tarrylaw04_FrameHurt.r33_eq 20000 a1 a2 (bits : Int) l (by omega) 20000 0 ⟨#[]⟩ 0 (by omega) (by omega)
  rw [show ((0 : Nat) : Int) = 0 from rfl, List.drop_zero] at h2
  have h4 := key l 0 rfl (by omega)
  rw [List.take_zero, whole, if_neg (by omega)] at h4
  rw [h2, h4]
  clear h2 h4 key
  unfold tarrylaw04_FrameHurt.j32
  rw [hW, if_pos (by omega), Int.toNat_natCast, hx, Option.bind_some]
  have hN : wrap64 (8 * (x.size : Int)) = ((8 * x.size : Nat) : Int) := by unfold wrap64; omega
  rw [hN]
  by_cases hx0 : ((8 * x.size : Nat) : Int) = 0
  · rw [if_pos hx0, tarrylaw04_FrameHurt.j36, if_pos rfl, hal]
    rfl
  rw [if_neg hx0, if_neg (by omega)]
  have hd8 : IntKind.i64.wrap (((8 * x.size : Nat) : Int).tdiv 8) = (x.size : Int) := by rw [IntKind.wrap_i64, Int.tdiv_eq_ediv_of_nonneg (by omega)]; omega
  rw [hd8, decide_eq_false (by unfold wrap64; omega), tarrylaw04_FrameHurt.j36, if_neg (by simp), hN, if_pos hx0]
  obtain ⟨p, hp, hP⟩ := turn0_ok a2 (8 * x.size) (by omega) (by omega)
  generalize hpre : whole (l.take w) ++ numS x.size = pre at *
  generalize hpost : B4 x ++ whole (l.drop (w + 1)) = post at *
  have hps := congrArg ByteArray.size hpre
  rw [app_size] at hps
  rw [hps, hws]
  have hst : byI (pre ++ x ++ post) = byI pre ++ brow x bits p 0 ++ byI post := by rw [byI_app, byI_app, brow_start x bits p]
  have hsz : (pre ++ x ++ post).size ≤ 100000 := by rw [← hws]; omega
  have hgo := hurt_loop 20000 a1 a2 bits (by omega) l pre x post hsz p hp hP 32 0 20000 (by omega) (by omega)
  rw [show ((0 : Nat) : Int) = 0 from rfl] at hgo
  rw [hst, hgo]
  clear hgo
  have hB := burst x bits p (by omega) (by omega)
  have hyok : okB (byI pre ++ brow x bits p 32 ++ byI post) := by
    intro z hz
    rw [List.mem_append, List.mem_append] at hz
    rcases hz with (hz | hz) | hz
    · exact okB_byI _ _ hz
    · unfold brow at hz
      obtain ⟨i, _, rfl⟩ := List.mem_map.1 hz
      have := brow_lt x bits p 32 i
      omega
    · exact okB_byI _ _ hz
  have hyk2 : okB (brow x bits p 32) := fun z hz => hyok z (by simp [hz])
  have hS : strOfNums (byI pre ++ brow x bits p 32 ++ byI post) = pre ++ strOfNums (brow x bits p 32) ++ post := by
    apply byI_inj
    rw [byI_num hyok, byI_app, byI_app, byI_num hyk2]
  rw [tarrylaw04_FrameHurt.l38, if_neg (by decide), if_pos (by rw [List.length_append, List.length_append, ← size_byI, ← size_byI, brow_length, app_size, app_size]), hS, beq_is, hal]
  have hys : (strOfNums (brow x bits p 32)).size = x.size := by rw [num_size, brow_length]
  generalize strOfNums (brow x bits p 32) = y at *
  by_cases hyx : y = x
  · rw [if_pos (decide_eq_true (by rw [hyx]))]
    rfl
  have hc := hB.resolve_left hyx
  have hne : ¬ pre ++ y ++ post = pre ++ x ++ post := by
    rw [app_assoc, app_assoc]
    intro h
    exact hyx (app_inj (app_inj h rfl).2 hys).1
  rw [if_neg (by simpa using hne)]
  have hsc := Scans.of (.nil (hurt_none (x := x) (by omega) hys hc (whole (l.drop (w + 1))))) (l.take w) (fun d hd => hall d (List.mem_of_mem_take hd))
  rw [List.append_nil] at hsc
  have he : pre ++ y ++ post = whole (l.take w) ++ (numS x.size ++ (y ++ (B4 x ++ whole (l.drop (w + 1))))) := by
    rw [← hpre, ← hpost]
    simp only [app_assoc]
  have hez : (pre ++ y ++ post).size ≤ 19000 := by
    have h1 := congrArg ByteArray.size hws
    rw [app_size, app_size] at h1 ⊢
    omega
  rw [he] at hez ⊢
  rw [scan_tells hsc 20000 (by decide) (by omega) (by omega), Option.bind_some]
  dsimp only
  rw [Option.bind_some, if_pos rfl, hW, if_pos (by omega), Int.toNat_natCast, List.drop_zero, same_self 20000 _ (by rw [List.length_take]; omega) (by rw [List.length_take]; omega)]
  rfl
end Go.Proofs.Ytaolaicmfjdmhaa.Pure
