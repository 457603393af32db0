/- DiskCrashes: a crash leaves each byte as it stood or as it was written, at every input; no further condition; no further condition. -/
import Derived.Test.YtlfkendmepdbkaaRDiskCrashes
namespace Go.Proofs.Ytlfkendmepdbkaa.Pure
open Go Go.RowKit Go.Proofs.Ytlfkendmepdbkaa.PDiskCrashes Go.Proofs.YtlfkendmepdbkaaV 
set_option linter.unusedSimpArgs false
set_option linter.unusedVariables false
theorem take_drop0 {α : Type} (l : List α) (i : Nat) : (l.take i).drop 0 = l.take i := rfl
theorem w64n {n : Int} (h1 : -9000000000000000000 ≤ n) (h2 : n ≤ 9000000000000000000) : wrap64 n = n := by unfold wrap64; omega
/-- A binary search's middle. -/
theorem mid_is {i j : Nat} (hi : i ≤ 1000000) (hj : j ≤ 1000000) : wrap64 ((IntKind.u64.wrap (wrap64 ((i : Int) + (j : Int)))).fdiv (2 ^ min (1 : Int).toNat IntKind.u64.bits)) = (((i + j) / 2 : Nat) : Int) := by
  have e1 : wrap64 ((i : Int) + (j : Int)) = ((i + j : Nat) : Int) := by unfold wrap64; omega
  have e2 : IntKind.u64.wrap ((i + j : Nat) : Int) = ((i + j : Nat) : Int) := by
    have h : IntKind.u64.wrap ((i + j : Nat) : Int) = ((i + j : Nat) : Int) % 18446744073709551616 := rfl
    rw [h]
    omega
  have e3 : (2 : Int) ^ min (1 : Int).toNat IntKind.u64.bits = 2 := by decide
  rw [e1, e2, e3, Int.fdiv_eq_ediv_of_nonneg _ (by decide)]
  unfold wrap64
  omega
/-- The things ahead of the first one that is not so. -/
theorem tw_len_le {α : Type} (p : α → Bool) (l : List α) : (l.takeWhile p).length ≤ l.length := by
  induction l with
  | nil => simp
  | cons x xs ih => rw [List.takeWhile_cons]; split <;> simp <;> omega
theorem tw_lt {α : Type} (p : α → Bool) : ∀ (l : List α) (i : Nat) (x : α), l[i]? = some x → i < (l.takeWhile p).length → p x = true
  | [], i, x, h, _ => by simp at h
  | y :: l, 0, x, h, hi => by
    simp only [List.getElem?_cons_zero, Option.some.injEq] at h
    subst h
    rw [List.takeWhile_cons] at hi
    by_cases hp : p y = true
    · exact hp
    · rw [if_neg hp] at hi; simp at hi
  | y :: l, i + 1, x, h, hi => by
    simp only [List.getElem?_cons_succ] at h
    rw [List.takeWhile_cons] at hi
    split at hi
    · exact tw_lt p l i x h (by simpa using hi)
    · simp at hi
theorem tw_at {α : Type} (p : α → Bool) : ∀ (l : List α) (x : α), l[(l.takeWhile p).length]? = some x → p x = false
  | [], x, h => by simp at h
  | y :: l, x, h => by
    rw [List.takeWhile_cons] at h
    by_cases hp : p y = true
    · rw [if_pos hp] at h
      simp only [List.length_cons, List.getElem?_cons_succ] at h
      exact tw_at p l x h
    · rw [if_neg hp] at h
      simp only [List.length_nil, List.getElem?_cons_zero, Option.some.injEq] at h
      subst h
      simpa using hp
/-- Where what is so stands ahead of what is not. -/
def Downs {α : Type} (p : α → Bool) (l : List α) : Prop := ∀ (i j : Nat) (x y : α), i < j → l[i]? = some x → l[j]? = some y → p y = true → p x = true
theorem tw_ge {α : Type} {p : α → Bool} {l : List α} (h : Downs p l) {i : Nat} {x : α} (hx : l[i]? = some x) (hi : (l.takeWhile p).length ≤ i) : p x = false := by
  have hl := (List.getElem?_eq_some_iff.1 hx).1
  obtain ⟨y, hn⟩ : ∃ y, l[(l.takeWhile p).length]? = some y := ⟨_, List.getElem?_eq_getElem (by omega)⟩
  have h0 := tw_at p l _ hn
  rcases Nat.lt_or_eq_of_le hi with h1 | h1
  · cases hp : p x with
    | false => rfl
    | true => rw [h _ _ _ _ h1 hn hx hp] at h0; cases h0
  · rw [h1, hx] at hn
    obtain rfl := Option.some.inj hn
    exact h0
theorem take_tw {α : Type} (p : α → Bool) (l : List α) : l.take (l.takeWhile p).length = l.takeWhile p := by
  induction l with
  | nil => rfl
  | cons x xs ih => rw [List.takeWhile_cons]; split <;> simp [ih]
theorem drop_tw {α : Type} (p : α → Bool) (l : List α) : l.drop (l.takeWhile p).length = l.dropWhile p := by
  induction l with
  | nil => rfl
  | cons x xs ih => rw [List.takeWhile_cons, List.dropWhile_cons]; split <;> simp [ih]
theorem pw_get {α : Type} {R : α → α → Prop} {l : List α} (h : l.Pairwise R) {i j : Nat} {x y : α} (hij : i < j) (hx : l[i]? = some x) (hy : l[j]? = some y) : R x y := by
  obtain ⟨h1, rfl⟩ := List.getElem?_eq_some_iff.1 hx
  obtain ⟨h2, rfl⟩ := List.getElem?_eq_some_iff.1 hy
  exact List.pairwise_iff_getElem.1 h i j h1 h2 hij
theorem pw_of_get {α : Type} {R : α → α → Prop} {l : List α} (h : ∀ (i j : Nat) (x y : α), i < j → l[i]? = some x → l[j]? = some y → R x y) : l.Pairwise R :=
  List.pairwise_iff_getElem.2 fun i j h1 h2 hij => h i j _ _ hij (List.getElem?_eq_getElem h1) (List.getElem?_eq_getElem h2)
theorem drop_cons_is {α : Type} {l : List α} {i : Nat} {x : α} {xs : List α} (h : l.drop i = x :: xs) : i < l.length ∧ l[i]? = some x ∧ l.drop (i + 1) = xs := by
  have h1 : i < l.length := by have := congrArg List.length h; simp at this; omega
  rw [List.drop_eq_getElem_cons h1] at h
  obtain ⟨h2, h3⟩ := List.cons.inj h
  exact ⟨h1, by rw [List.getElem?_eq_getElem h1, h2], h3⟩
theorem drop_nil_is {α : Type} {l : List α} {i : Nat} (h : l.drop i = []) : l.length ≤ i := by have := congrArg List.length h; simp at this; omega
theorem filter_split {α : Type} (p : α → Bool) (l : List α) : (l.filter p).length + (l.filter (fun x => !p x)).length = l.length := by
  induction l with
  | nil => rfl
  | cons x xs ih => by_cases h : p x = true <;> simp [List.filter_cons, h] <;> omega
theorem mem_tw_dw {α : Type} (p : α → Bool) (l : List α) (y : α) : (y ∈ l.takeWhile p ∨ y ∈ l.dropWhile p) ↔ y ∈ l := by
  rw [← List.mem_append, List.takeWhile_append_dropWhile]
theorem mem_tw {α : Type} {p : α → Bool} {l : List α} {y : α} (h : y ∈ l.takeWhile p) : p y = true := by
  obtain ⟨i, hi⟩ := List.getElem?_of_mem h
  have hlt := (List.getElem?_eq_some_iff.1 hi).1
  rw [← take_tw, List.getElem?_take, if_pos hlt] at hi
  exact tw_lt p l i y hi hlt
theorem mem_dw {α : Type} {p : α → Bool} {l : List α} (hd : Downs p l) {y : α} (h : y ∈ l.dropWhile p) : p y = false := by
  obtain ⟨i, hi⟩ := List.getElem?_of_mem h
  rw [← drop_tw, List.getElem?_drop] at hi
  exact tw_ge hd hi (by omega)
/-- Two rows that rise, of the same things, are the same row. -/
theorem eq_of_rise {α : Type} {R : α → α → Prop} (irr : ∀ a b, R a b → ¬ R b a) : ∀ (l l' : List α), l.Pairwise R → l'.Pairwise R → (∀ x, x ∈ l ↔ x ∈ l') → l = l'
  | [], [], _, _, _ => rfl
  | [], b :: l', _, _, h => by have := (h b).2 (by simp); cases this
  | a :: l, [], _, _, h => by have := (h a).1 (by simp); cases this
  | a :: l, b :: l', h1, h2, h => by
    rw [List.pairwise_cons] at h1 h2
    have hab : a = b := by
      rcases List.mem_cons.1 ((h a).1 (by simp)) with e | e
      · exact e
      rcases List.mem_cons.1 ((h b).2 (by simp)) with e2 | e2
      · exact e2.symm
      exact absurd (h1.1 b e2) (irr _ _ (h2.1 a e))
    subst hab
    have hna : ∀ x, R x x → False := fun x hx => irr x x hx hx
    rw [eq_of_rise irr l l' h1.2 h2.2 fun x => ⟨fun hx => ?_, fun hx => ?_⟩]
    · rcases List.mem_cons.1 ((h x).1 (by simp [hx])) with e | e
      · subst e; exact absurd (h1.1 _ hx) (hna _)
      · exact e
    · rcases List.mem_cons.1 ((h x).2 (by simp [hx])) with e | e
      · subst e; exact absurd (h2.1 _ hx) (hna _)
      · exact e
theorem filter_tw {α : Type} {p : α → Bool} : ∀ {l : List α}, Downs p l → l.filter p = l.takeWhile p
  | [], _ => rfl
  | x :: xs, h => by
    by_cases hx : p x = true
    · rw [List.filter_cons, if_pos hx, List.takeWhile_cons, if_pos hx, filter_tw (l := xs) fun i j a b hij ha hb hp => h (i + 1) (j + 1) a b (by omega) (by simpa using ha) (by simpa using hb) hp]
    · rw [List.takeWhile_cons, if_neg hx, List.filter_eq_nil_iff]
      intro y hy hp
      obtain ⟨j, hj⟩ := List.getElem?_of_mem hy
      cases j with
      | zero => simp at hj; subst hj; exact hx hp
      | succ j => exact hx (h 0 (j + 1) x y (by omega) rfl hj hp)
theorem tw_mono {α : Type} {p q : α → Bool} (h : ∀ x, p x = true → q x = true) (l : List α) : (l.takeWhile p).length ≤ (l.takeWhile q).length := by
  induction l with
  | nil => simp
  | cons x xs ih =>
    rw [List.takeWhile_cons, List.takeWhile_cons]
    by_cases hx : p x = true
    · rw [if_pos hx, if_pos (h x hx)]; simp; omega
    · rw [if_neg hx]; simp
theorem pw_of_adj {α : Type} {R : α → α → Prop} (tr : ∀ {a b c}, R a b → R b c → R a c) {l : List α} (h : ∀ (i : Nat) (x y : α), l[i]? = some x → l[i + 1]? = some y → R x y) : l.Pairwise R := by
  have hall : ∀ (d i : Nat) (x y : α), l[i]? = some x → l[i + 1 + d]? = some y → R x y := by
    intro d
    induction d with
    | zero => intro i x y hx hy; exact h i x y hx hy
    | succ d ih =>
      intro i x y hx hy
      have hlt := (List.getElem?_eq_some_iff.1 hy).1
      have hz : l[i + 1 + d]? = some l[i + 1 + d] := List.getElem?_eq_getElem (by omega)
      exact tr (ih i x _ hx hz) (h (i + 1 + d) _ y hz hy)
  exact pw_of_get fun i j x y hij hx hy => hall (j - i - 1) i x y hx (by rw [show i + 1 + (j - i - 1) = j by omega]; exact hy)
/-! ### texts as rows of numbers -/
def okB (l : List Int) : Prop := ∀ x ∈ l, 0 ≤ x ∧ x < 256
theorem okB_byI (s : ByteArray) : okB (byI s) := by
  intro x hx
  obtain ⟨b, _, rfl⟩ := List.mem_map.1 hx
  have := UInt8.toNat_lt b
  omega
theorem byI_inj {a b : ByteArray} (h : byI a = byI b) : a = b := by
  have h2 : a.data.toList = b.data.toList := by
    unfold byI at h
    have : ∀ (l m : List UInt8), l.map (fun b => (b.toNat : Int)) = m.map (fun b => (b.toNat : Int)) → l = m := by
      intro l
      induction l with
      | nil => intro m h; cases m with | nil => rfl | cons => simp at h
      | cons x xs ih =>
        intro m h
        cases m with
        | nil => simp at h
        | cons y ys =>
          simp only [List.map_cons, List.cons.injEq] at h
          rw [ih ys h.2, UInt8.toNat_inj.1 (by omega : x.toNat = y.toNat)]
    exact this _ _ h
  cases a with
  | mk a =>
    cases b with
    | mk b => simp only at h2; rw [Array.toList_inj.1 h2]
theorem byI_num {l : List Int} (h : okB l) : byI (strOfNums l) = l := by
  unfold byI strOfNums
  simp only [List.map_map]
  conv => rhs; rw [← List.map_id l]
  refine List.map_congr_left fun x hx => ?_
  have := h x hx
  simp only [Function.comp, id]
  rw [UInt8.toNat_ofNat']
  omega
theorem num_byI (s : ByteArray) : strOfNums (byI s) = s := byI_inj (byI_num (okB_byI s))
theorem byI_app (a b : ByteArray) : byI (a ++ b) = byI a ++ byI b := by
  unfold byI
  rw [ByteArray.data_append, Array.toList_append, List.map_append]
theorem byI_ext (s : ByteArray) (i j : Nat) : byI (s.extract i j) = ((byI s).take j).drop i := by
  unfold byI
  rw [ByteArray.data_extract, Array.toList_extract, ← List.map_take, ← List.map_drop]
  congr 1
  rw [List.extract_eq_take_drop, List.drop_take]
theorem byI_nil : byI (⟨#[]⟩ : ByteArray) = [] := rfl
theorem size_byI (s : ByteArray) : s.size = (byI s).length := (byI_len s).symm
theorem num_size {l : List Int} : (strOfNums l).size = l.length := by
  rw [size_byI]; unfold byI strOfNums; simp
theorem bt_get {s : ByteArray} {i : Nat} (h : i < s.size) : (byI s)[i]? = some (bt s i) := by
  unfold byI bt
  rw [List.getElem?_map, Array.getElem?_toList, Int.toNat_natCast, dif_pos h]
  have : s.data[i]? = some s.data[i] := Array.getElem?_eq_getElem h
  rw [this]
  rfl
theorem bt_of {s : ByteArray} {i : Nat} {x : Int} (h : (byI s)[i]? = some x) : bt s i = x := by
  have := (List.getElem?_eq_some_iff.1 h).1
  rw [bt_get (by rw [size_byI]; exact this)] at h
  exact Option.some.inj h
theorem app_size (a b : ByteArray) : (a ++ b).size = a.size + b.size := ByteArray.size_append
theorem ext_size (s : ByteArray) (i j : Nat) (h : j ≤ s.size) : (s.extract i j).size = j - i := by rw [ByteArray.size_extract]; omega
theorem ext_left (a b : ByteArray) : (a ++ b).extract 0 a.size = a := by
  apply byI_inj
  rw [byI_ext, byI_app, List.drop_zero, size_byI, List.take_left]
theorem ext_right (a b : ByteArray) : (a ++ b).extract a.size (a ++ b).size = b := by
  apply byI_inj
  rw [byI_ext, byI_app, app_size, size_byI a, size_byI b, ← List.length_append, List.take_length, List.drop_left]
theorem ext_split (s : ByteArray) (i : Nat) (h : i ≤ s.size) : s.extract 0 i ++ s.extract i s.size = s := by
  apply byI_inj
  rw [byI_app, byI_ext, byI_ext, List.drop_zero, size_byI s, List.take_length, List.take_append_drop]
theorem app_assoc (a b c : ByteArray) : a ++ b ++ c = a ++ (b ++ c) := by
  apply byI_inj
  rw [byI_app, byI_app, byI_app, byI_app, List.append_assoc]
theorem app_inj {a b c d : ByteArray} (h : a ++ b = c ++ d) (hs : a.size = c.size) : a = c ∧ b = d := by
  have h2 := congrArg byI h
  rw [byI_app, byI_app] at h2
  obtain ⟨h3, h4⟩ := List.append_inj h2 (by rw [← size_byI, ← size_byI, hs])
  exact ⟨byI_inj h3, byI_inj h4⟩
theorem app_nil (a : ByteArray) : a ++ (⟨#[]⟩ : ByteArray) = a := by
  apply byI_inj
  rw [byI_app, byI_nil, List.append_nil]
theorem nil_app (a : ByteArray) : (⟨#[]⟩ : ByteArray) ++ a = a := by
  apply byI_inj
  rw [byI_app, byI_nil, List.nil_append]
theorem size_zero {a : ByteArray} (h : a.size = 0) : a = ⟨#[]⟩ := by
  apply byI_inj
  rw [size_byI] at h
  rw [List.eq_nil_of_length_eq_zero h, byI_nil]
theorem ba_toList_loop (a : ByteArray) : ∀ (d i : Nat) (r : List UInt8), a.size - i = d → ByteArray.toList.loop a i r = r.reverse ++ a.data.toList.drop i := by
  intro d
  induction d with
  | zero =>
    intro i r h
    unfold ByteArray.toList.loop
    have h1 : ¬ i < a.size := by omega
    rw [if_neg h1, List.drop_eq_nil_of_le (by show a.data.toList.length ≤ i; rw [Array.length_toList]; exact Nat.le_of_not_lt h1), List.append_nil]
  | succ d ih =>
    intro i r h
    unfold ByteArray.toList.loop
    have h1 : i < a.size := by omega
    have h2 : i < a.data.toList.length := by rw [Array.length_toList]; exact h1
    rw [if_pos h1, ih (i + 1) _ (by omega), List.reverse_cons, List.append_assoc, List.drop_eq_getElem_cons h2]
    have h3 : a.get! i = a.data.toList[i] := by
      show a.data[i]! = _
      rw [getElem!_pos a.data i h1]
      rfl
    rw [h3]
    rfl
theorem ba_toList (a : ByteArray) : a.toList = a.data.toList := by
  unfold ByteArray.toList
  rw [ba_toList_loop a a.size 0 [] (by omega)]
  rfl
theorem beq_is (a b : ByteArray) : (a == b) = decide (a = b) := by
  rw [beq_toListBytes, ba_toList, ba_toList, Bool.eq_iff_iff, beq_iff_eq, decide_eq_true_eq]
  refine ⟨fun h => ?_, fun h => by rw [h]⟩
  cases a with
  | mk a =>
    cases b with
    | mk b => simpa using h
/-! ### disks -/
def cut66 (x : ByteArray) : ByteArray := x.extract 0 (mn (x.size : Int) 66).toNat
def cutW (x : S32) : S32 := ⟨x.f0, cut66 x.f1⟩
theorem cut66_ok (x : ByteArray) : 0 ≤ mn (x.size : Int) 66 ∧ mn (x.size : Int) 66 ≤ (x.size : Int) ∧ (cut66 x).size ≤ 66 := by
  have h : mn (x.size : Int) 66 = ((min x.size 66 : Nat) : Int) := by unfold mn; split <;> omega
  unfold cut66
  rw [h, Int.toNat_natCast, ext_size _ _ _ (by omega)]
  omega
theorem few_r5 (k : Nat) (l : List S32) (m : List ByteArray) : ∀ (xs out : List S32), out.length + xs.length < 1000 → tarrylaw03_few.r5 k l m xs out = some (m, out ++ xs.map cutW)
  | [], out, _ => by simp [tarrylaw03_few.r5]
  | x :: xs, out, h => by
    simp only [List.length_cons] at h
    obtain ⟨c1, c2, _⟩ := cut66_ok x.f1
    rw [tarrylaw03_few.r5, if_pos c1, if_pos c2, if_pos (by simp; omega), few_r5 k l m xs _ (by simp; omega)]
    simp [cutW, cut66]
theorem mn_take {α : Type} (l : List α) (n : Nat) (q : Int) (hq : q = n) : mn (l.length : Int) q = ((min l.length n : Nat) : Int) ∧ (l.take (min l.length n)).drop 0 = l.take n := by
  subst hq
  refine ⟨by unfold mn; split <;> omega, ?_⟩
  rw [List.drop_zero]
  rcases Nat.le_total l.length n with h | h
  · rw [List.take_of_length_le (by omega), List.take_of_length_le (by omega)]
  · rw [Nat.min_eq_right h]
theorem few_r1 (k : Nat) (l0 : List ByteArray) (l1 : List S32) : ∀ (xs out : List ByteArray), out.length + xs.length < 1000 → tarrylaw03_few.r1 k l0 l1 xs out = some (out ++ xs.map cut66, (l1.take 66).map cutW)
  | [], out, _ => by
    obtain ⟨h1, h2⟩ := mn_take l1 66 66 rfl
    rw [tarrylaw03_few.r1, h1, Int.toNat_natCast, h2, if_pos (by omega), if_pos (by omega), few_r5 _ _ _ _ _ (by rw [List.length_take]; simp; omega)]
    simp
  | x :: xs, out, h => by
    simp only [List.length_cons] at h
    obtain ⟨c1, c2, _⟩ := cut66_ok x
    rw [tarrylaw03_few.r1, if_pos c1, if_pos c2, if_pos (by simp; omega), few_r1 k l0 l1 xs _ (by simp; omega)]
    simp [cut66]
theorem few_tells (k : Nat) (hk : 100 ≤ k) (ss : List ByteArray) (ws : List S32) : tarrylaw03_few.f k ss ws = some ((ss.take 20).map cut66, (ws.take 66).map cutW) := by
  obtain ⟨h1, h2⟩ := mn_take ss 20 20 rfl
  obtain ⟨g1, g2⟩ := mn_take ws 66 66 rfl
  have hl : (ss.take 20).length ≤ 20 := by rw [List.length_take]; omega
  have hl2 : (ws.take 66).length ≤ 66 := by rw [List.length_take]; omega
  have := tarrylaw03_few.r1_eq k ss ws
  rw [h1, Int.toNat_natCast, h2, g1, Int.toNat_natCast, g2] at this
  have e := this (by omega) (by omega) k 0 [] (by omega) (by omega)
  rw [show ((0 : Nat) : Int) = 0 from rfl, List.drop_zero] at e
  unfold tarrylaw03_few.f
  rw [h1, if_pos (by omega), if_pos (by omega), e, few_r1 _ _ _ _ _ (by simp; omega)]
  rfl
/-- Which disks may be. -/
def wB (n : Nat) (x : S32) : Bool := decide (0 ≤ x.f0 ∧ x.f0 < (n : Int) ∧ x.f1.size = 64)
def sB (x : ByteArray) : Bool := decide (x.size = 64)
def rightB (ss : List ByteArray) (ws : List S32) : Bool := decide (1 ≤ ss.length ∧ ss.length ≤ 512 ∧ ws.length ≤ 64) && (ss.all sB && ws.all (wB ss.length))
theorem rightB_is {ss : List ByteArray} {ws : List S32} : rightB ss ws = true ↔ (1 ≤ ss.length ∧ ss.length ≤ 512 ∧ ws.length ≤ 64) ∧ (∀ x ∈ ss, x.size = 64) ∧ ∀ x ∈ ws, 0 ≤ x.f0 ∧ x.f0 < (ss.length : Int) ∧ x.f1.size = 64 := by
  unfold rightB wB sB
  simp only [Bool.and_eq_true, decide_eq_true_eq, List.all_eq_true]
theorem idx_s (k : Nat) (l : List ByteArray) : ∀ (xs : List ByteArray) (i : Nat), ∃ n : Int, slices_IndexFunc_string_string.r1 k l xs i = some n ∧ decide (n ≥ 0) = !xs.all sB
  | [], i => ⟨-1, rfl, rfl⟩
  | x :: xs, i => by
    rw [slices_IndexFunc_string_string.r1, disk_Right_1.f, Option.bind_some]
    by_cases h : x.size = 64
    · obtain ⟨n, h1, h2⟩ := idx_s k l xs (i + 1)
      refine ⟨n, ?_, ?_⟩
      · rw [if_neg (by simp; omega), h1]
      · rw [h2, List.all_cons, show sB x = true by simp [sB, h], Bool.true_and]
    · refine ⟨i, ?_, ?_⟩
      · rw [if_pos (by simp; omega)]
      · rw [List.all_cons, show sB x = false by simp [sB, h]]
        simp
theorem idx_w (k n : Nat) (l : List S32) : ∀ (xs : List S32) (i : Nat), ∃ q : Int, slices_IndexFunc_api_Write_api_Write.r1 k (n : Int) l xs i = some q ∧ decide (q ≥ 0) = !xs.all (wB n)
  | [], i => ⟨-1, rfl, rfl⟩
  | x :: xs, i => by
    have hb : disk_Right_2.f x.f0 x.f1 (n : Int) = some (!wB n x) := by
      unfold disk_Right_2.f wB disk_Right_1.f
      by_cases h1 : x.f0 < 0
      · rw [if_pos h1, decide_eq_false (by omega)]; rfl
      · rw [if_neg h1]
        by_cases h2 : x.f0 ≥ (n : Int)
        · rw [if_pos h2, decide_eq_false (by omega)]; rfl
        · rw [if_neg h2, Option.bind_some]
          by_cases h3 : x.f1.size = 64
          · rw [decide_eq_true (by omega), h3]; rfl
          · rw [decide_eq_false (by omega)]
            have : ((x.f1.size : Int) != 64) = true := by simp; omega
            rw [this]; rfl
    rw [slices_IndexFunc_api_Write_api_Write.r1, hb, Option.bind_some, List.all_cons]
    cases hw : wB n x with
    | true =>
      obtain ⟨q, h1, h2⟩ := idx_w k n l xs (i + 1)
      exact ⟨q, by rw [if_neg (by simp), h1], by rw [h2, Bool.true_and]⟩
    | false => exact ⟨i, by rw [if_pos (by simp)], by simp⟩
theorem right_tells (k : Nat) (ss : List ByteArray) (ws : List S32) (h1 : ss.length < k) (h2 : ws.length < k) (hk : k ≤ 1000000) : disk_Right.f k ss ws = some (rightB ss ws) := by
  obtain ⟨n, e1, e2⟩ := idx_s k ss ss 0
  obtain ⟨q, g1, g2⟩ := idx_w k ss.length ws ws 0
  have e3 := slices_IndexFunc_string_string.r1_eq k ss (by omega) k 0 (by omega) (by omega)
  have g3 := slices_IndexFunc_api_Write_api_Write.r1_eq k (ss.length : Int) ws (by omega) k 0 (by omega) (by omega)
  rw [show ((0 : Nat) : Int) = 0 from rfl, List.drop_zero] at e3 g3
  unfold disk_Right.f rightB
  by_cases c1 : (ss.length : Int) ≥ 1
  · rw [if_pos c1]
    by_cases c2 : (ss.length : Int) ≤ 512
    · rw [if_pos c2]
      by_cases c3 : (ws.length : Int) ≤ 64
      · rw [if_pos c3, slices_ContainsFunc_string_string.f, slices_IndexFunc_string_string.f, e3, e1, Option.bind_some, Option.bind_some, e2, decide_eq_true (by omega), Bool.true_and]
        cases ss.all sB with
        | false => rfl
        | true =>
          rw [if_neg (by simp), slices_ContainsFunc_api_Write_api_Write.f, slices_IndexFunc_api_Write_api_Write.f, g3, g1, Option.bind_some, Option.bind_some, g2]
          cases ws.all (wB ss.length) <;> rfl
      · rw [if_neg c3, decide_eq_false (by omega)]; rfl
    · rw [if_neg c2, decide_eq_false (by omega)]; rfl
  · rw [if_neg c1, decide_eq_false (by omega)]; rfl
/-- What is read of a place. -/
def getF (a : Int) (ws : List S32) (s : ByteArray) : ByteArray := ws.foldl (fun s w => if w.f0 = a then w.f1 else s) s
theorem get_l0 (k : Nat) (a : Int) (ss : List ByteArray) (ws : List S32) (s : ByteArray) (ha : 0 ≤ a) (hs : ss[a.toNat]? = some s) (hw : ws.length ≤ 1000000) : ∀ (n m : Nat), n ≤ ws.length → n < m → disk_Get.l0 k a ss ws m ((n : Int) - 1) = some (getF a (ws.take n) s, 0)
  | 0, m, _, hm => by
    obtain ⟨m, rfl⟩ : ∃ q, m = q + 1 := ⟨m - 1, by omega⟩
    rw [disk_Get.l0, if_neg (by omega), if_pos ha, hs, Option.bind_some]
    rfl
  | n + 1, m, hn, hm => by
    obtain ⟨m, rfl⟩ : ∃ q, m = q + 1 := ⟨m - 1, by omega⟩
    have e : ((n + 1 : Nat) : Int) - 1 = (n : Int) := by omega
    have hx : ws[n]? = some ws[n] := List.getElem?_eq_getElem (by omega)
    have ew : wrap64 ((n : Int) - 1) = (n : Int) - 1 := by unfold wrap64; omega
    rw [e, disk_Get.l0, if_pos (by omega), if_pos (by omega), Int.toNat_natCast, hx, Option.bind_some, ew, get_l0 k a ss ws s ha hs hw n m (by omega) (by omega)]
    have : ws.take (n + 1) = ws.take n ++ [ws[n]] := by rw [List.take_add_one, hx]; rfl
    unfold getF
    rw [this, List.foldl_append]
    simp only [List.foldl_cons, List.foldl_nil]
    split <;> rfl
theorem get_tells (k : Nat) (ss : List ByteArray) (ws : List S32) (a : Int) (h1 : ss.length < k) (h2 : ws.length < k) (hk : k ≤ 1000000) : disk_Get.f k ss ws a = some (if rightB ss ws = true then (if 0 ≤ a ∧ a < (ss.length : Int) then (getF a ws (ss.getD a.toNat ⟨#[]⟩), 0) else (⟨#[]⟩, 8)) else (⟨#[]⟩, 1)) := by
  unfold disk_Get.f
  rw [right_tells k ss ws h1 h2 hk, Option.bind_some]
  cases rightB ss ws with
  | false => rfl
  | true =>
    rw [if_pos rfl, if_pos rfl]
    by_cases c1 : a < 0
    · rw [if_pos c1, if_neg (by omega)]
    · rw [if_neg c1]
      by_cases c2 : a ≥ (ss.length : Int)
      · rw [if_pos c2, if_neg (by omega)]
      · have hx : ss[a.toNat]? = some ss[a.toNat] := List.getElem?_eq_getElem (by omega)
        have ew : wrap64 ((ws.length : Int) - 1) = (ws.length : Int) - 1 := by unfold wrap64; omega
        rw [if_neg c2, if_pos (by omega), slices_Backward_api_Write_api_Write.f, Option.bind_some, ew, get_l0 k a ss ws _ (by omega) hx (by omega) ws.length k (Nat.le_refl _) h2, List.take_length, List.getD_eq_getElem?_getD, hx]
        rfl
theorem put_tells (k : Nat) (ss : List ByteArray) (ws : List S32) (a : Int) (d : ByteArray) (h1 : ss.length < k) (h2 : ws.length < k) (hk : k ≤ 1000000) : disk_Put.f k ss ws a d = some (if rightB ss ws = true then (if 0 ≤ a ∧ a < (ss.length : Int) then (if d.size = 64 then (if ws.length = 64 then ([], [], 7) else (ss, ws ++ [⟨a, d⟩], 0)) else ([], [], 1)) else ([], [], 8)) else ([], [], 1)) := by
  unfold disk_Put.f
  rw [right_tells k ss ws h1 h2 hk, Option.bind_some]
  cases hr : rightB ss ws with
  | false => rfl
  | true =>
    have hr2 := rightB_is.1 hr
    rw [if_pos rfl, if_pos rfl]
    by_cases c1 : a < 0
    · rw [if_pos c1, if_neg (by omega)]
    · rw [if_neg c1]
      by_cases c2 : a ≥ (ss.length : Int)
      · rw [if_pos c2, if_neg (by omega)]
      · rw [if_neg c2, if_pos (show 0 ≤ a ∧ a < (ss.length : Int) by omega)]
        by_cases c3 : d.size = 64
        · rw [if_pos (by omega), if_pos c3]
          by_cases c4 : ws.length = 64
          · rw [if_pos (by omega), if_pos c4]
          · rw [if_neg (by omega), if_neg c4, slices_Clip_api_Write_api_Write.f, Option.bind_some, if_pos (by simp; omega)]
        · rw [if_neg (by omega), if_neg c3]
/-! ### a crash -/
def runC (a : Nat) : List S32 → Nat → List ByteArray → Int → List ByteArray × Int
  | [], _, l, last => (l, last)
  | w :: ws, i, l, last => if a / 2 ^ i % 2 = 1 then runC a ws (i + 1) (l.set w.f0.toNat w.f1) last else runC a ws (i + 1) l (i : Int)
def tear (n : Nat) (x y : ByteArray) : ByteArray := x.extract 0 n ++ y.extract n y.size
def finC (t : Int) (ws : List S32) (p : List ByteArray × Int) : List ByteArray :=
  if 0 ≤ p.2 ∧ 1 ≤ t ∧ t < 64 then (match ws[p.2.toNat]? with
    | some w => p.1.set w.f0.toNat (tear t.toNat w.f1 (p.1.getD w.f0.toNat ⟨#[]⟩))
    | none => p.1) else p.1
def crashB (ss : List ByteArray) (ws : List S32) (a : Nat) (t : Int) : List ByteArray := finC t ws (runC a ws 0 ss (-1))
theorem and64 (c : Nat) (h : c < 18446744073709551616) : Go.bits .and .u64 (c : Int) 1 = ((c % 2 : Nat) : Int) := by
  have := bits_mask .u64 64 (by decide) (by intro n h h'; rw [IntKind.wrap_u64]; omega) 1 (by decide) (c : Int) (by omega) (by omega)
  have h2 : Go.bits .and .u64 (c : Int) 1 = (c : Int) % 2 := this
  rw [h2]
  omega
theorem shr64 (a i : Nat) (h : i < 64) : (a : Int).fdiv (2 ^ min i IntKind.u64.bits) = ((a / 2 ^ i : Nat) : Int) := by
  have e : min i IntKind.u64.bits = i := Nat.min_eq_left (show i ≤ 64 by omega)
  have e2 : (2 : Int) ^ i = ((2 ^ i : Nat) : Int) := (Int.natCast_pow 2 i).symm
  rw [e, e2, Int.fdiv_eq_ediv_of_nonneg _ (Int.natCast_nonneg _)]
  rfl
theorem runC_is (a : Nat) (n : Nat) : ∀ (xs : List S32) (i : Nat) (l : List ByteArray) (last : Int), (∀ x ∈ xs, 0 ≤ x.f0 ∧ x.f0 < (n : Int) ∧ x.f1.size = 64) → l.length = n → (∀ x ∈ l, x.size = 64) → -1 ≤ last → last < (i + xs.length : Nat) →
    (runC a xs i l last).1.length = n ∧ (∀ x ∈ (runC a xs i l last).1, x.size = 64) ∧ -1 ≤ (runC a xs i l last).2 ∧ (runC a xs i l last).2 < (i + xs.length : Nat)
  | [], i, l, last, _, h2, h3, h4, h5 => ⟨h2, h3, h4, h5⟩
  | x :: xs, i, l, last, h1, h2, h3, h4, h5 => by
    have hx := h1 x (by simp)
    have h1' := fun y hy => h1 y (List.mem_cons_of_mem _ hy)
    simp only [List.length_cons] at h5 ⊢
    unfold runC
    split
    · have := runC_is a n xs (i + 1) (l.set x.f0.toNat x.f1) last h1' (by rw [List.length_set]; exact h2) (fun y hy => by
        rcases List.mem_or_eq_of_mem_set hy with hy | rfl
        · exact h3 y hy
        · exact hx.2.2) h4 (by omega)
      exact ⟨this.1, this.2.1, this.2.2.1, by omega⟩
    · have := runC_is a n xs (i + 1) l (i : Int) h1' h2 h3 (by omega) (by omega)
      exact ⟨this.1, this.2.1, this.2.2.1, by omega⟩
theorem crash_r3 (k : Nat) (a : Nat) (ha : a < 18446744073709551616) (t : Int) (ws : List S32) (n : Nat) : ∀ (xs : List S32) (i : Nat) (l : List ByteArray) (last : Int), (∀ x ∈ xs, 0 ≤ x.f0 ∧ x.f0 < (n : Int) ∧ x.f1.size = 64) → l.length = n → i + xs.length ≤ 64 →
    disk_Crash.r3 k (a : Int) t ws xs i l last = disk_Crash.j2 k t ws (runC a xs i l last).1 (runC a xs i l last).2
  | [], i, l, last, _, _, _ => by rw [disk_Crash.r3]; rfl
  | x :: xs, i, l, last, h1, h2, h3 => by
    have hx := h1 x (by simp)
    have h1' := fun y hy => h1 y (List.mem_cons_of_mem _ hy)
    simp only [List.length_cons] at h3
    have hd : a / 2 ^ i < 18446744073709551616 := Nat.lt_of_le_of_lt (Nat.div_le_self _ _) ha
    rw [disk_Crash.r3, Int.toNat_natCast, shr64 a i (by omega), and64 _ hd]
    unfold runC
    by_cases c : a / 2 ^ i % 2 = 1
    · have hg : l[x.f0.toNat]? = some l[x.f0.toNat] := List.getElem?_eq_getElem (by omega)
      rw [if_pos (by omega), if_pos hx.1, hg, Option.bind_some, if_pos c, crash_r3 k a ha t ws n xs (i + 1) _ last h1' (by rw [List.length_set]; exact h2) (by omega)]
    · rw [if_neg (by omega), if_neg c, crash_r3 k a ha t ws n xs (i + 1) l _ h1' h2 (by omega)]
theorem tear_is (n : Nat) (x y : ByteArray) (hn : n ≤ 64) (hx : x.size = 64) (hy : y.size = 64) : strOfNums ((byI (x.extract 0 n)).take (min (x.extract 0 n).size y.size) ++ (byI y).drop (min (x.extract 0 n).size y.size)) = tear n x y := by
  have hs : (x.extract 0 n).size = n := by rw [ext_size _ _ _ (by omega)]; omega
  rw [hs, hy, Nat.min_eq_left hn]
  unfold tear
  apply byI_inj
  rw [byI_num, byI_app, byI_ext y, List.take_of_length_le (by rw [← size_byI, hs]; exact Nat.le_refl _), List.take_of_length_le (l := byI y) (by rw [← size_byI]; exact Nat.le_refl _)]
  intro z hz
  rcases List.mem_append.1 hz with hz | hz
  · exact okB_byI _ z (List.mem_of_mem_take hz)
  · exact okB_byI _ z (List.mem_of_mem_drop hz)
theorem tear_size (n : Nat) (x y : ByteArray) (hn : n ≤ 64) (hx : x.size = 64) (hy : y.size = 64) : (tear n x y).size = 64 := by
  unfold tear
  rw [app_size, ext_size _ _ _ (by omega), ext_size _ _ _ (Nat.le_refl _)]
  omega
theorem crash_j2 (k : Nat) (t : Int) (ws : List S32) (l : List ByteArray) (last : Int) (hw : ∀ x ∈ ws, 0 ≤ x.f0 ∧ x.f0 < (l.length : Int) ∧ x.f1.size = 64) (hl : ∀ x ∈ l, x.size = 64) (h2 : last < (ws.length : Int)) : disk_Crash.j2 k t ws l last = some (finC t ws (l, last), [], 0) := by
  unfold disk_Crash.j2 finC
  by_cases c1 : last ≥ 0
  · rw [if_pos c1]
    by_cases c2 : t ≥ 1
    · rw [if_pos c2]
      by_cases c3 : t < 64
      · have hg : ws[last.toNat]? = some ws[last.toNat] := List.getElem?_eq_getElem (by omega)
        have hx := hw _ (List.mem_of_getElem? hg)
        generalize ws[last.toNat] = x at hg hx
        have hy : l[x.f0.toNat]? = some l[x.f0.toNat] := List.getElem?_eq_getElem (by omega)
        have hys := hl _ (List.mem_of_getElem? hy)
        generalize l[x.f0.toNat] = y at hy hys
        have hs : (x.f1.extract 0 t.toNat).size = t.toNat := by rw [ext_size _ _ _ (by omega)]; omega
        rw [if_pos c3, if_pos (show 0 ≤ (l, last).2 ∧ 1 ≤ t ∧ t < 64 from ⟨c1, c2, c3⟩), if_pos c1, hg, Option.bind_some, if_pos hx.1, hy, Option.bind_some, if_pos (by omega), if_pos (by omega), if_pos (by rw [← size_byI]), tear_is t.toNat x.f1 y (by omega) hx.2.2 hys]
        have hsz : ((byI (x.f1.extract 0 t.toNat)).take (min (x.f1.extract 0 t.toNat).size y.size) ++ (byI y).drop (min (x.f1.extract 0 t.toNat).size y.size)).length = y.size := by
          rw [List.length_append, List.length_take, List.length_drop, ← size_byI, ← size_byI, hs, hys]
          omega
        rw [if_pos hsz, Option.bind_some]
        dsimp only
        rw [List.getD_eq_getElem?_getD, hy]
        rfl
      · rw [if_neg c3, if_neg (fun h => c3 h.2.2)]
    · rw [if_neg c2, if_neg (fun h => c2 h.2.1)]
  · rw [if_neg c1, if_neg (fun h => c1 h.1)]
theorem crash_tells (k : Nat) (ss : List ByteArray) (ws : List S32) (a : Nat) (ha : a < 18446744073709551616) (t : Int) (h1 : ss.length < k) (h2 : ws.length < k) (hk : k ≤ 1000000) : disk_Crash.f k ss ws (a : Int) t = some (if rightB ss ws = true then (crashB ss ws a t, [], 0) else ([], [], 1)) := by
  unfold disk_Crash.f
  rw [right_tells k ss ws h1 h2 hk, Option.bind_some]
  cases hr : rightB ss ws with
  | false => rfl
  | true =>
    obtain ⟨⟨r1, r2, r3⟩, r4, r5⟩ := rightB_is.1 hr
    have hi := runC_is a ss.length ws 0 ss (-1) r5 rfl r4 (by omega) (by omega)
    have e := disk_Crash.r3_eq k (a : Int) t ws (by omega) k 0 ss (-1) (by omega) (by omega)
    rw [show ((0 : Nat) : Int) = 0 from rfl, List.drop_zero] at e
    rw [if_pos rfl, if_pos rfl, slices_Clone_string_string.f, if_pos (by omega), Option.bind_some, e, crash_r3 k a ha t ws ss.length ws 0 ss (-1) r5 rfl (by omega), crash_j2 k t ws _ _ (by rw [hi.1]; exact r5) hi.2.1 (by omega)]
    rfl
theorem crashB_is {ss : List ByteArray} {ws : List S32} (hr : rightB ss ws = true) (a : Nat) (t : Int) : (crashB ss ws a t).length = ss.length ∧ ∀ x ∈ crashB ss ws a t, x.size = 64 := by
  obtain ⟨⟨r1, r2, r3⟩, r4, r5⟩ := rightB_is.1 hr
  obtain ⟨i1, i2, i3, i4⟩ := runC_is a ss.length ws 0 ss (-1) r5 rfl r4 (by omega) (by omega)
  unfold crashB finC
  generalize runC a ws 0 ss (-1) = p at *
  split
  · rename_i c
    have hg : ws[p.2.toNat]? = some ws[p.2.toNat] := List.getElem?_eq_getElem (by omega)
    rw [hg]
    have hx := r5 _ (List.mem_of_getElem? hg)
    generalize ws[p.2.toNat] = x at hx
    dsimp only
    refine ⟨by rw [List.length_set]; exact i1, fun y hy => ?_⟩
    rcases List.mem_or_eq_of_mem_set hy with hy | rfl
    · exact i2 y hy
    · have hy : p.1[x.f0.toNat]? = some p.1[x.f0.toNat] := List.getElem?_eq_getElem (by omega)
      rw [List.getD_eq_getElem?_getD, hy]
      exact tear_size _ _ _ (by omega) hx.2.2 (i2 _ (List.mem_of_getElem? hy))
  · exact ⟨i1, i2⟩
theorem alive_tells : tarrylaw03_alive.f 1000 = some true := by decide +kernel
/-- A byte of a place that stood there, or was written there. -/
def From (ss : List ByteArray) (ws : List S32) (p i : Nat) (b : Int) : Prop := bt (ss.getD p ⟨#[]⟩) i = b ∨ ∃ w ∈ ws, w.f0 = (p : Int) ∧ bt w.f1 i = b
theorem run_from (ss : List ByteArray) (ws : List S32) (a n : Nat) : ∀ (xs : List S32) (i : Nat) (l : List ByteArray) (last : Int), (∀ x ∈ xs, x ∈ ws ∧ 0 ≤ x.f0 ∧ x.f0 < (n : Int)) → l.length = n → (∀ p, p < n → ∀ j, From ss ws p j (bt (l.getD p ⟨#[]⟩) (j : Int))) →
    ∀ p, p < n → ∀ j, From ss ws p j (bt ((runC a xs i l last).1.getD p ⟨#[]⟩) (j : Int))
  | [], i, l, last, _, _, h3 => h3
  | x :: xs, i, l, last, h1, h2, h3 => by
    have hx := h1 x (by simp)
    have h1' := fun y hy => h1 y (List.mem_cons_of_mem _ hy)
    unfold runC
    split
    · refine run_from ss ws a n xs (i + 1) _ last h1' (by rw [List.length_set]; exact h2) (fun p hp j => ?_)
      by_cases c : x.f0.toNat = p
      · have e : (l.set x.f0.toNat x.f1).getD p ⟨#[]⟩ = x.f1 := by
          rw [List.getD_eq_getElem?_getD, c, List.getElem?_set_self (by omega)]
          rfl
        rw [e]
        exact .inr ⟨x, hx.1, by omega, rfl⟩
      · rw [List.getD_eq_getElem?_getD, List.getElem?_set_ne c, ← List.getD_eq_getElem?_getD]
        exact h3 p hp j
    · exact run_from ss ws a n xs (i + 1) l _ h1' h2 h3
theorem tear_bt (n j : Nat) (x y : ByteArray) (hn : n ≤ 64) (hx : x.size = 64) (hy : y.size = 64) (hj : j < 64) : bt (tear n x y) (j : Int) = bt x j ∨ bt (tear n x y) (j : Int) = bt y j := by
  have hb : byI (tear n x y) = (byI x).take n ++ (byI y).drop n := by
    unfold tear
    rw [byI_app, byI_ext, byI_ext, List.drop_zero, List.take_of_length_le (l := byI y) (by rw [← size_byI]; exact Nat.le_refl _)]
  have hl : ((byI x).take n).length = n := by rw [List.length_take, ← size_byI]; omega
  by_cases c : j < n
  · left
    apply bt_of
    rw [hb, List.getElem?_append_left (by omega), List.getElem?_take, if_pos c]
    exact bt_get (by omega)
  · right
    apply bt_of
    rw [hb, List.getElem?_append_right (by omega), hl, List.getElem?_drop, show n + (j - n) = j by omega]
    exact bt_get (by omega)
theorem crash_from {ss : List ByteArray} {ws : List S32} (hr : rightB ss ws = true) (a : Nat) (t : Int) (p : Nat) (hp : p < ss.length) (j : Nat) (hj : j < 64) : From ss ws p j (bt ((crashB ss ws a t).getD p ⟨#[]⟩) (j : Int)) := by
  obtain ⟨⟨r1, r2, r3⟩, r4, r5⟩ := rightB_is.1 hr
  obtain ⟨i1, i2, i3, i4⟩ := runC_is a ss.length ws 0 ss (-1) r5 rfl r4 (by omega) (by omega)
  have hf := run_from ss ws a ss.length ws 0 ss (-1) (fun x hx => ⟨hx, (r5 x hx).1, (r5 x hx).2.1⟩) rfl (fun p _ j => .inl rfl)
  unfold crashB finC
  generalize runC a ws 0 ss (-1) = q at *
  split
  · rename_i c
    have hg : ws[q.2.toNat]? = some ws[q.2.toNat] := List.getElem?_eq_getElem (by omega)
    rw [hg]
    have hm := List.mem_of_getElem? hg
    have hx := r5 _ hm
    generalize ws[q.2.toNat] = x at hx hm
    dsimp only
    by_cases c : x.f0.toNat = p
    · have hy : q.1[p]? = some q.1[p] := List.getElem?_eq_getElem (by omega)
      have hys := i2 _ (List.mem_of_getElem? hy)
      have hyd : q.1.getD p ⟨#[]⟩ = q.1[p] := by rw [List.getD_eq_getElem?_getD, hy]; rfl
      have e : (q.1.set x.f0.toNat (tear t.toNat x.f1 (q.1.getD x.f0.toNat ⟨#[]⟩))).getD p ⟨#[]⟩ = tear t.toNat x.f1 (q.1.getD p ⟨#[]⟩) := by
        rw [List.getD_eq_getElem?_getD, c, List.getElem?_set_self (by omega)]
        rfl
      rw [e]
      rcases tear_bt t.toNat j x.f1 (q.1.getD p ⟨#[]⟩) (by omega) hx.2.2 (by rw [hyd]; exact hys) hj with h | h
      · rw [h]
        exact .inr ⟨x, hm, by omega, rfl⟩
      · rw [h]
        exact hf p hp j
    · rw [List.getD_eq_getElem?_getD, List.getElem?_set_ne c, ← List.getD_eq_getElem?_getD]
      exact hf p hp j
  · exact hf p hp j
theorem r21_true (k : Nat) (r : Option Bool) (j p : Int) (ws : List S32) (x : ByteArray) (q : Bool) : ∀ xs : List S32, tarrylaw03_DiskCrashes.r21 k r j p ws x xs true q = r
  | [] => by rw [tarrylaw03_DiskCrashes.r21, if_pos rfl]
  | y :: ys => by rw [tarrylaw03_DiskCrashes.r21, if_pos rfl, r21_true k r j p ws x q ys]
theorem r21_is (k : Nat) (r : Option Bool) (j p : Int) (hj : j < 64) (ws : List S32) (x : ByteArray) (q : Bool) : ∀ xs : List S32, (∀ w ∈ xs, w.f1.size = 64) → (∃ w ∈ xs, w.f0 = p ∧ bt w.f1 j = bt x j) → tarrylaw03_DiskCrashes.r21 k r j p ws x xs false q = r
  | [], _, h => by obtain ⟨w, hw, _⟩ := h; cases hw
  | y :: ys, hs, h => by
    have hy := hs y (by simp)
    have hs' := fun w hw => hs w (List.mem_cons_of_mem _ hw)
    rw [tarrylaw03_DiskCrashes.r21, if_neg (by simp)]
    by_cases c : y.f0 = p
    · rw [if_pos c, if_pos (by omega)]
      by_cases d : bt y.f1 j = bt x j
      · rw [show (bt y.f1 j == bt x j) = true from beq_iff_eq.2 d, r21_true]
      · rw [show (bt y.f1 j == bt x j) = false from beq_eq_false_iff_ne.2 d]
        refine r21_is k r j p hj ws x q ys hs' ?_
        obtain ⟨w, hw, h1, h2⟩ := h
        rcases List.mem_cons.1 hw with rfl | hw
        · exact absurd h2 d
        · exact ⟨w, hw, h1, h2⟩
    · rw [if_neg c]
      refine r21_is k r j p hj ws x q ys hs' ?_
      obtain ⟨w, hw, h1, h2⟩ := h
      rcases List.mem_cons.1 hw with rfl | hw
      · exact absurd h1 c
      · exact ⟨w, hw, h1, h2⟩
theorem DiskCrashes : tarrylaw03_DiskCrashes.Pure := by
  intro l0 l1 a4 a5 _ _ h4 _
  refine ⟨1000, ?_⟩
  obtain ⟨b1, b2⟩ : 0 ≤ a4 ∧ a4 < 18446744073709551616 := by
    simp [Lit.wf, IntKind.min, IntKind.max, IntKind.signed, IntKind.bits] at h4
    omega
  obtain ⟨a, rfl⟩ : ∃ q : Nat, a4 = (q : Int) := ⟨a4.toNat, by omega⟩
  have b3 : a < 18446744073709551616 := by omega
  unfold tarrylaw03_DiskCrashes.f
  rw [few_tells 1000 (by decide), Option.bind_some]
  have hs : ((l0.take 20).map cut66).length ≤ 20 := by rw [List.length_map, List.length_take]; omega
  have hw : ((l1.take 66).map cutW).length ≤ 66 := by rw [List.length_map, List.length_take]; omega
  generalize (l0.take 20).map cut66 = ss at hs ⊢
  generalize (l1.take 66).map cutW = ws at hw ⊢
  dsimp only
  rw [crash_tells 1000 ss ws a b3 a5 (by omega) (by omega) (by decide), alive_tells]
  by_cases hr : rightB ss ws = true
  · obtain ⟨⟨r1, r2, r3⟩, r4, r5⟩ := rightB_is.1 hr
    obtain ⟨q1, q2⟩ := crashB_is hr a a5
    have hf := crash_from hr a a5
    rw [if_pos hr, Option.bind_some]
    dsimp only
    generalize crashB ss ws a a5 = B at *
    rw [if_pos rfl, if_pos (show ((([] : List S32).length : Nat) : Int) = 0 from rfl), if_pos (by omega), Option.bind_some, if_pos rfl]
    have h17 : ∀ (r : Int → Option Bool) (p : Nat) (x : ByteArray), p < ss.length → B[p]? = some x → ∀ (d j m : Nat), j + d = 64 → d < m → tarrylaw03_DiskCrashes.l17 1000 r (p : Int) ss ws x m (j : Int) = r (wrap64 ((p : Int) + 1)) := by
      intro r p x hp hx d
      have hxs := q2 _ (List.mem_of_getElem? hx)
      have hbd : B.getD p ⟨#[]⟩ = x := by rw [List.getD_eq_getElem?_getD, hx]; rfl
      have hsp : ss[p]? = some ss[p] := List.getElem?_eq_getElem hp
      have hss := r4 _ (List.mem_of_getElem? hsp)
      have hsd : ss.getD p ⟨#[]⟩ = ss[p] := by rw [List.getD_eq_getElem?_getD, hsp]; rfl
      induction d with
      | zero =>
        intro j m hj hm
        obtain ⟨m, rfl⟩ : ∃ q, m = q + 1 := ⟨m - 1, by omega⟩
        rw [tarrylaw03_DiskCrashes.l17, if_neg (by omega)]
      | succ d ih =>
        intro j m hj hm
        obtain ⟨m, rfl⟩ : ∃ q, m = q + 1 := ⟨m - 1, by omega⟩
        have ihj := ih (j + 1) m (by omega) (by omega)
        have hj64 : (j : Int) < 64 := by omega
        have hjx : (j : Int) < (x.size : Int) := by omega
        have hjs : (j : Int) < (ss[p].size : Int) := by omega
        have hfj := hf p hp j (by omega)
        have e := tarrylaw03_DiskCrashes.r21_eq 1000 (tarrylaw03_DiskCrashes.l17 1000 r (p : Int) ss ws x m) (j : Int) (p : Int) ws x (by omega) 1000 0 (bt x j == bt ss[p] j) (bt x j == bt ss[p] j) (by omega) (by omega)
        have hwj : wrap64 ((j : Int) + 1) = ((j + 1 : Nat) : Int) := w64n (by omega) (by omega)
        rw [show ((0 : Nat) : Int) = 0 from rfl, List.drop_zero, hwj, ihj] at e
        rw [tarrylaw03_DiskCrashes.l17, if_pos hj64, if_pos (Int.natCast_nonneg j), if_pos hjx, Int.toNat_natCast, hsp, Option.bind_some, if_pos hjs, e]
        by_cases c : bt x j = bt ss[p] j
        · rw [show (bt x j == bt ss[p] j) = true from beq_iff_eq.2 c, r21_true]
        · rw [show (bt x j == bt ss[p] j) = false from beq_eq_false_iff_ne.2 c]
          refine r21_is 1000 _ _ _ hj64 ws x _ ws (fun w hw => (r5 w hw).2.2) ?_
          rw [hbd] at hfj
          rcases hfj with h | h
          · rw [hsd] at h
            exact absurd h.symm c
          · exact h
    have h11 : ∀ (d p m : Nat), p + d = ss.length → d < m → tarrylaw03_DiskCrashes.l11 1000 B ss ws m (p : Int) = some true := by
      intro d
      induction d with
      | zero =>
        intro p m hp hm
        obtain ⟨m, rfl⟩ : ∃ q, m = q + 1 := ⟨m - 1, by omega⟩
        rw [tarrylaw03_DiskCrashes.l11, if_neg (by omega)]
      | succ d ih =>
        intro p m hp hm
        obtain ⟨m, rfl⟩ : ∃ q, m = q + 1 := ⟨m - 1, by omega⟩
        have hx : B[p]? = some B[p] := List.getElem?_eq_getElem (by omega)
        have hxs := q2 _ (List.mem_of_getElem? hx)
        have hx64 : (B[p].size : Int) = 64 := by omega
        have hpB : (p : Int) < (B.length : Int) := by omega
        have ihp := ih (p + 1) m (by omega) (by omega)
        have e := h17 (tarrylaw03_DiskCrashes.l11 1000 B ss ws m) p B[p] (by omega) hx 64 0 1000 (by omega) (by decide)
        rw [show ((0 : Nat) : Int) = 0 from rfl] at e
        have hwp : wrap64 ((p : Int) + 1) = ((p + 1 : Nat) : Int) := w64n (by omega) (by omega)
        rw [tarrylaw03_DiskCrashes.l11, if_pos hpB, if_pos (Int.natCast_nonneg p), Int.toNat_natCast, hx, Option.bind_some, if_pos hx64, e, hwp, ihp]
    have := h11 ss.length 0 1000 (by omega) (by omega)
    exact this
  · rw [if_neg hr, Option.bind_some]
    dsimp only
    rw [if_neg (by decide), Option.bind_some, if_pos rfl]
    rfl
end Go.Proofs.Ytlfkendmepdbkaa.Pure
