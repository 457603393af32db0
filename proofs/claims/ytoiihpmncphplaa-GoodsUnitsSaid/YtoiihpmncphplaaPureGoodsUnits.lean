/- GoodsUnits: for any rule and any number, how many are needed is as the reference says, or refused, enough, and no more than that; no further condition. -/
import Derived.Test.YtoiihpmncphplaaPGoodsUnitsx3
namespace Go.Proofs.Ytoiihpmncphplaa.Pure
open Go.RowKit Go.Proofs.Ytoiihpmncphplaa.PGoodsUnits Go.Proofs.YtoiihpmncphplaaW.PrintWords Go.Proofs.YtoiihpmncphplaaW.PrintLast Go.Proofs.YtoiihpmncphplaaW.PrintMore
set_option linter.unusedSimpArgs false
theorem wf64 {a : Int} (h : (Lit.int .i64 a).wf = true) : -9223372036854775808 ≤ a ∧ a ≤ 9223372036854775807 := by
  simpa [Lit.wf, IntKind.min, IntKind.max, IntKind.signed, IntKind.bits] using h
theorem wrap64_id {a : Int} (h : -9223372036854775808 ≤ a) (h' : a ≤ 9223372036854775807) : wrap64 a = a := by
  unfold wrap64
  omega
theorem ba_toList_loop (a : ByteArray) : ∀ (d i : Nat) (r : List UInt8), a.size - i = d → ByteArray.toList.loop a i r = r.reverse ++ a.data.toList.drop i := by
  intro d
  induction d with
  | zero =>
    intro i r h
    unfold ByteArray.toList.loop
    have h1 : ¬ i < a.size := by omega
    rw [if_neg h1, List.drop_eq_nil_of_le (by show a.data.toList.length ≤ i; rw [Array.length_toList]; exact Nat.le_of_not_lt h1), List.append_nil]
  | succ d ih =>
    intro i r h
    unfold ByteArray.toList.loop
    have h1 : i < a.size := by omega
    have h2 : i < a.data.toList.length := by rw [Array.length_toList]; exact h1
    rw [if_pos h1, ih (i + 1) _ (by omega), List.reverse_cons, List.append_assoc, List.drop_eq_getElem_cons h2]
    have h3 : a.get! i = a.data.toList[i] := by
      show a.data[i]! = _
      rw [getElem!_pos a.data i h1]
      rfl
    rw [h3]
    rfl
theorem ba_toList (a : ByteArray) : a.toList = a.data.toList := by
  unfold ByteArray.toList
  rw [ba_toList_loop a a.size 0 [] (by omega)]
  rfl
theorem ba_nil (a : ByteArray) : a.toList = [] ↔ a.size = 0 := by
  rw [ba_toList]
  constructor
  · intro h
    show a.data.size = 0
    rw [← Array.length_toList, h]
    rfl
  · intro h
    exact List.eq_nil_of_length_eq_zero (by rw [Array.length_toList]; exact h)

/-- May a byte stand in a name? -/
def charB (c : Int) : Bool := (decide (97 ≤ c) && decide (c ≤ 122)) || (decide (48 ≤ c) && decide (c ≤ 57))
theorem charB_eq (c : Int) : charB c = decide ((97 ≤ c ∧ c ≤ 122) ∨ (48 ≤ c ∧ c ≤ 57)) := by
  unfold charB
  simp only [Bool.decide_or, Bool.decide_and]
/-- So many bytes from a place on may. -/
def okFrom (s : ByteArray) : Nat → Nat → Bool
  | 0, _ => true
  | d + 1, i => charB (bt s i) && okFrom s d (i + 1)
/-- May a text be a name? -/
def nameB (s : ByteArray) : Bool := decide (s.size ≠ 0) && (decide (s.size ≤ 16) && okFrom s s.size 0)

theorem rd_bytes (s : ByteArray) (i : Nat) (h : i < s.size) : rd (bytesOf s) i = bt s i := by
  unfold rd bytesOf bt
  rw [Int.toNat_natCast, dif_pos h, List.getD_eq_getElem?_getD, List.getElem?_map, List.getElem?_eq_getElem (by simpa using h)]
  simp
  rfl
theorem odd_tells (c : Int) : goods_name_1_v2.f c = some (!charB c) := by
  unfold goods_name_1_v2.f
  rw [charB_eq]
  by_cases hP : (97 ≤ c ∧ c ≤ 122) ∨ (48 ≤ c ∧ c ≤ 57)
  · rw [decide_eq_true hP]
    (repeat' split) <;> first | rfl | omega | (rw [decide_eq_false (by omega)]; rfl)
  · rw [decide_eq_false hP]
    (repeat' split) <;> first | rfl | omega | (rw [decide_eq_true (by omega)]; rfl)
theorem index_tells (s : ByteArray) (hs : s.size ≤ 100) (d : Nat) : ∀ (k i : Nat), i + d = s.size → d < k →
    ∃ r, slices_IndexFunc_byte_byte_v1.l0 k (bytesOf s) (s.size : Int) i = some r ∧ decide (r ≥ 0) = !okFrom s d i := by
  induction d with
  | zero =>
    intro k i hi hk
    obtain ⟨k, rfl⟩ : ∃ m, k = m + 1 := ⟨k - 1, by omega⟩
    refine ⟨-1, ?_, rfl⟩
    rw [slices_IndexFunc_byte_byte_v1.l0]
    exact if_neg (by omega)
  | succ d ih =>
    intro k i hi hk
    obtain ⟨k, rfl⟩ : ∃ m, k = m + 1 := ⟨k - 1, by omega⟩
    have c1 : (i : Int) < (s.size : Int) := by omega
    have c2 : 0 ≤ (i : Int) := by omega
    have c3 : (i : Int) < ((bytesOf s).length : Int) := by rw [bytesOf_length]; omega
    obtain ⟨r, hr, hd⟩ := ih k (i + 1) (by omega) (by omega)
    have w : wrap64 ((i : Int) + 1) = ((i + 1 : Nat) : Int) := (wrap64_id (by omega) (by omega)).trans (by rfl)
    rw [slices_IndexFunc_byte_byte_v1.l0, rd_bytes s i (by omega), odd_tells, w]
    simp only [Option.bind_some, okFrom]
    cases hc : charB (bt s i)
    · refine ⟨i, (if_pos c1).trans ((if_pos c2).trans ((if_pos c3).trans (if_pos rfl))), ?_⟩
      simp
    · refine ⟨r, (if_pos c1).trans ((if_pos c2).trans ((if_pos c3).trans ?_)), ?_⟩
      · rw [if_neg (by decide)]
        exact hr
      · rw [hd]
        simp
theorem name_tells (s : ByteArray) (k : Nat) (hk : 20 ≤ k) : goods_name.f k s = some (nameB s) := by
  unfold goods_name.f nameB
  by_cases h0 : s.size = 0
  · rw [if_pos ((ba_nil s).2 h0)]
    simp [h0]
  · rw [if_neg (fun h => h0 ((ba_nil s).1 h))]
    by_cases h1 : s.size ≤ 16
    · obtain ⟨r, hr, hd⟩ := index_tells s (by omega) s.size k 0 (by omega) (by omega)
      have hx : slices_IndexFunc_byte_byte_v1.f k (bytesOf s) = some r := by
        unfold slices_IndexFunc_byte_byte_v1.f
        rw [bytesOf_length]
        exact hr
      rw [if_pos (by omega)]
      unfold slices_ContainsFunc_byte_byte_v0.f
      rw [hx]
      simp only [Option.bind_some, hd]
      simp [h0, h1]
    · rw [if_neg (by omega)]
      simp [h1]
theorem ref_name_loop (s : ByteArray) (hs : s.size ≤ 100) (d : Nat) : ∀ (k i : Nat), i + d = s.size → d < k →
    tarryref07_Name.l0 k s i = some (okFrom s d i && (decide (s.size ≠ 0) && decide (s.size ≤ 16))) := by
  induction d with
  | zero =>
    intro k i hi hk
    obtain ⟨k, rfl⟩ : ∃ m, k = m + 1 := ⟨k - 1, by omega⟩
    rw [tarryref07_Name.l0]
    refine (if_neg (by omega)).trans ?_
    by_cases h0 : s.size = 0
    · rw [if_neg (by omega)]
      simp [h0]
    · rw [if_pos (by omega)]
      have e : decide ((s.size : Int) ≤ 16) = decide (s.size ≤ 16) := decide_eq_decide.2 (by omega)
      rw [e, decide_eq_true h0]
      rfl
  | succ d ih =>
    intro k i hi hk
    obtain ⟨k, rfl⟩ : ∃ m, k = m + 1 := ⟨k - 1, by omega⟩
    have c1 : (i : Int) < (s.size : Int) := by omega
    have c2 : 0 ≤ (i : Int) := by omega
    have hr := ih k (i + 1) (by omega) (by omega)
    have w : wrap64 ((i : Int) + 1) = ((i + 1 : Nat) : Int) := (wrap64_id (by omega) (by omega)).trans (by rfl)
    rw [tarryref07_Name.l0, w, hr, okFrom]
    refine (if_pos c1).trans ((if_pos c2).trans ?_)
    generalize bt s i = c
    generalize okFrom s d (i + 1) = o
    clear hr w
    rw [charB_eq]
    by_cases hP : (97 ≤ c ∧ c ≤ 122) ∨ (48 ≤ c ∧ c ≤ 57)
    · rw [decide_eq_true hP, Bool.true_and]
      (repeat' split) <;> first | rfl | omega
    · rw [decide_eq_false hP, Bool.false_and, Bool.false_and]
      (repeat' split) <;> first | rfl | omega
theorem ref_name_tells (s : ByteArray) (hs : s.size ≤ 18) (k : Nat) (hk : 20 ≤ k) : tarryref07_Name.f k s = some (nameB s) := by
  unfold tarryref07_Name.f nameB
  rw [show (0 : Int) = ((0 : Nat) : Int) from rfl, ref_name_loop s (by omega) s.size k 0 (by omega) (by omega)]
  congr 1
  cases okFrom s s.size 0 <;> cases decide (s.size ≠ 0) <;> cases decide (s.size ≤ 16) <;> rfl
theorem in_tells (a b : Int) : goods_in.f a b = some (decide (1 ≤ a ∧ a ≤ b)) := by
  unfold goods_in.f
  split <;> simp <;> omega
/-- May a rule be? -/
def mayB (a b : ByteArray) (r n d : Int) : Bool := nameB a && (nameB b && (decide (¬ a.toList = b.toList) && decide ((1 ≤ r ∧ r ≤ 9) ∧ (1 ≤ n ∧ n ≤ 100) ∧ (1 ≤ d ∧ d ≤ 100))))
theorem may_tells (a b : ByteArray) (r n d : Int) (k : Nat) (hk : 20 ≤ k) : goods_may.f k a b r n d = some (mayB a b r n d) := by
  unfold goods_may.f mayB
  rw [name_tells a k hk, name_tells b k hk]
  simp only [Option.bind_some, in_tells, decide_eq_true_eq]
  cases nameB a
  · rfl
  · cases nameB b
    · rfl
    · by_cases h1 : a.toList = b.toList
      · simp [h1]
      · by_cases h2 : 1 ≤ r ∧ r ≤ 9 <;> by_cases h3 : 1 ≤ n ∧ n ≤ 100 <;> by_cases h4 : 1 ≤ d ∧ d ≤ 100 <;> simp [h1, h2, h3, h4]
theorem ref_may_tells (a b : ByteArray) (r n d : Int) (ha : a.size ≤ 18) (hb : b.size ≤ 18) (k : Nat) (hk : 20 ≤ k) : tarryref07_May.f k a b r n d = some (mayB a b r n d) := by
  unfold tarryref07_May.f mayB
  rw [ref_name_tells a ha k hk, ref_name_tells b hb k hk]
  simp only [Option.bind_some]
  cases nameB a
  · rfl
  · cases nameB b
    · rfl
    · by_cases h1 : a.toList = b.toList
      · simp [h1]
      · by_cases h2 : 1 ≤ r <;> by_cases h3 : r ≤ 9 <;> by_cases h4 : 1 ≤ n <;> by_cases h5 : n ≤ 100 <;> by_cases h6 : 1 ≤ d <;> simp [h1, h2, h3, h4, h5, h6]
/-- Rounded up. -/
theorem ceil_div (p d : Int) (hd : 0 < d) : (p + d - 1) / d = p / d + (if p % d > 0 then 1 else 0) := by
  have h1 := Int.mul_ediv_add_emod p d
  have h2 := Int.emod_nonneg p (show d ≠ 0 by omega)
  have h3 := Int.emod_lt_of_pos p hd
  by_cases h : p % d > 0
  · rw [if_pos h, show p + d - 1 = (p % d - 1) + d * (p / d + 1) by rw [Int.mul_add]; omega, Int.add_mul_ediv_left _ _ (by omega), Int.ediv_eq_zero_of_lt (by omega) (by omega)]
    omega
  · rw [if_neg h, show p + d - 1 = (d - 1) + d * (p / d) by omega, Int.add_mul_ediv_left _ _ (by omega), Int.ediv_eq_zero_of_lt (by omega) (by omega)]
    omega
/-- How many are needed. -/
def needs (n m d : Int) : Int := n * m / d + (if n * m % d > 0 then 1 else 0)
theorem prod_le {a b c d : Int} (ha : 0 ≤ a) (hb : 0 ≤ b) (h1 : a ≤ c) (h2 : b ≤ d) : 0 ≤ a * b ∧ a * b ≤ c * d :=
  ⟨Int.mul_nonneg ha hb, Int.mul_le_mul h1 h2 hb (by omega)⟩
theorem needs_range (n m d : Int) (hn : 1 ≤ n ∧ n ≤ 1073741824) (hm : 1 ≤ m ∧ m ≤ 100) (hd : 1 ≤ d ∧ d ≤ 100) :
    (1 ≤ n * m ∧ n * m ≤ 107374182400) ∧ 1 ≤ needs n m d ∧ needs n m d ≤ 107374182401 ∧ needs n m d * d ≥ n * m ∧ (needs n m d - 1) * d < n * m := by
  have hp := prod_le (a := n) (b := m) (c := 1073741824) (d := 100) (by omega) (by omega) (by omega) (by omega)
  have hp1 : 1 ≤ n * m := by
    have := Int.mul_le_mul_of_nonneg_left hm.1 (show 0 ≤ n by omega)
    omega
  unfold needs
  generalize n * m = p at *
  have h1 := Int.mul_ediv_add_emod p d
  have h2 := Int.emod_nonneg p (show d ≠ 0 by omega)
  have h3 := Int.emod_lt_of_pos p (show 0 < d by omega)
  have h4 : 0 ≤ p / d := Int.ediv_nonneg (by omega) (by omega)
  have h5 : p / d ≤ p := Int.ediv_le_self _ (by omega)
  generalize hq : p / d = q at *
  generalize hr : p % d = r at *
  have h6 : q * d = d * q := Int.mul_comm ..
  by_cases h : r > 0
  · rw [if_pos h, Int.add_sub_cancel, Int.add_mul, Int.one_mul]
    omega
  · have hq1 : q ≠ 0 := by
      rintro rfl
      omega
    rw [if_neg h, Int.add_zero, Int.sub_mul, Int.one_mul]
    omega
theorem ref_units_tells (a b : ByteArray) (r n m d : Int) (hn : 1 ≤ n ∧ n ≤ 1073741824) (hm : 1 ≤ m ∧ m ≤ 100) (hd : 1 ≤ d ∧ d ≤ 100) : tarryref07_Units.f a b r m d n = some (needs n m d) := by
  have hr := needs_range n m d hn hm hd
  unfold tarryref07_Units.f
  rw [if_neg (by omega), wrap64_id (a := n * m) (by omega) (by omega), Int.tmod_eq_emod_of_nonneg (by omega), Int.tdiv_eq_ediv_of_nonneg (by omega)]
  unfold needs at hr ⊢
  generalize n * m = p at *
  have h4 : 0 ≤ p / d := Int.ediv_nonneg (by omega) (by omega)
  have h5 : p / d ≤ p := Int.ediv_le_self _ (by omega)
  rw [wrap64_id (a := p / d) (by omega) (by omega)]
  by_cases h : p % d > 0
  · rw [if_pos h, if_pos h, wrap64_id (by omega) (by omega)]
  · rw [if_neg h, if_neg h, Int.add_zero]
theorem units_tells (a b : ByteArray) (r n m d : Int) (k : Nat) (hk : 20 ≤ k) : goods_Units.f (k + 1) a b r m d n =
    some (if mayB a b r m d = true ∧ 1 ≤ n ∧ n ≤ 1073741824 then (if needs n m d > 1073741824 then (0, 2) else (needs n m d, 0)) else (0, 1)) := by
  unfold goods_Units.f
  rw [may_tells a b r m d (k + 1) (by omega)]
  simp only [Option.bind_some, in_tells]
  cases hm : mayB a b r m d
  · simp [goods_Units.j0]
  · by_cases hn : 1 ≤ n ∧ n ≤ 1073741824
    · have hx : (1 ≤ m ∧ m ≤ 100) ∧ (1 ≤ d ∧ d ≤ 100) := by
        unfold mayB at hm
        simp only [Bool.and_eq_true, decide_eq_true_eq] at hm
        exact hm.2.2.2.2
      have hr := needs_range n m d hn hx.1 hx.2
      have hc : true = true ∧ 1 ≤ n ∧ n ≤ 1073741824 := ⟨rfl, hn⟩
      rw [if_pos rfl, decide_eq_true hn, if_pos hc, Bool.not_true, goods_Units.j0, if_neg (by decide), if_neg (by omega)]
      have e : wrap64 (Int.tdiv (wrap64 (wrap64 (wrap64 (n * m) + d) - 1)) d) = needs n m d := by
        rw [wrap64_id (a := n * m) (by omega) (by omega), wrap64_id (a := n * m + d) (by omega) (by omega), wrap64_id (a := n * m + d - 1) (by omega) (by omega), Int.tdiv_eq_ediv_of_nonneg (by omega), ceil_div _ _ (by omega)]
        exact wrap64_id (a := needs n m d) (by omega) (by omega)
      rw [e]
      split <;> rfl
    · simp [hn, goods_Units.j0]
theorem alive_tells (k : Nat) (hk : 20 ≤ k) : tarrylaw07_alive.f (k + 1) = some true := by
  unfold tarrylaw07_alive.f
  have h : mayB (⟨#[97]⟩ : ByteArray) (⟨#[98]⟩ : ByteArray) 1 3 2 = true := by
    unfold mayB
    simp only [ba_toList]
    decide
  rw [units_tells _ _ _ _ _ _ k hk, h]
  decide
theorem GoodsUnits : tarrylaw07_GoodsUnits.Pure := by
  intro f t r m d n hf ht wr wm wd wn
  have hr := wf64 wr
  have hm := wf64 wm
  have hd := wf64 wd
  have hn := wf64 wn
  have mnl : ∀ a : Int, 0 ≤ a → 0 ≤ mn a 18 ∧ mn a 18 ≤ a ∧ mn a 18 ≤ 18 := fun a h => by unfold mn; split <;> omega
  have hcut : tarrylaw07_cut.f f t r m d = some (f.extract 0 (mn (f.size : Int) 18).toNat, t.extract 0 (mn (t.size : Int) 18).toNat, r, m, d) := by
    unfold tarrylaw07_cut.f
    have h1 := mnl f.size (by omega)
    have h2 := mnl t.size (by omega)
    rw [if_pos h1.1, if_pos h1.2.1, if_pos h2.1, if_pos h2.2.1]
  have sf : (f.extract 0 (mn (f.size : Int) 18).toNat).size ≤ 18 := by
    have h1 := mnl f.size (by omega)
    rw [ByteArray.size_extract]
    omega
  have st : (t.extract 0 (mn (t.size : Int) 18).toNat).size ≤ 18 := by
    have h1 := mnl t.size (by omega)
    rw [ByteArray.size_extract]
    omega
  refine ⟨41, ?_⟩
  unfold tarrylaw07_GoodsUnits.f
  rw [hcut]
  simp only [Option.bind_some]
  generalize f.extract 0 (mn (f.size : Int) 18).toNat = a at *
  generalize t.extract 0 (mn (t.size : Int) 18).toNat = b at *
  rw [units_tells a b r n m d 40 (by omega), ref_may_tells a b r m d sf st 41 (by omega)]
  simp only [Option.bind_some]
  have al : tarrylaw07_alive.f 40 = some true := alive_tells 39 (by omega)
  cases hmay : mayB a b r m d
  · simp [tarrylaw07_GoodsUnits.j0, al]
  · have hx : (1 ≤ m ∧ m ≤ 100) ∧ (1 ≤ d ∧ d ≤ 100) := by
      unfold mayB at hmay
      simp only [Bool.and_eq_true, decide_eq_true_eq] at hmay
      exact hmay.2.2.2.2
    by_cases hn1 : 1 ≤ n ∧ n ≤ 1073741824
    · have hc : true = true ∧ 1 ≤ n ∧ n ≤ 1073741824 := ⟨rfl, hn1⟩
      have rg := needs_range n m d hn1 hx.1 hx.2
      rw [if_pos rfl, if_neg (by omega), if_pos hc, decide_eq_false (show ¬ n > 1073741824 by omega), tarrylaw07_GoodsUnits.j0, if_neg (by decide), ref_units_tells a b r n m d hn1 hx.1 hx.2, al]
      simp only [Option.bind_some, if_true]
      by_cases hb : needs n m d > 1073741824
      · rw [if_pos hb, if_pos hb, if_pos rfl]
        rfl
      · have hk1 := prod_le (a := needs n m d) (b := d) (c := 1073741824) (d := 100) (by omega) (by omega) (by omega) (by omega)
        have hk2 := prod_le (a := needs n m d - 1) (b := d) (c := 1073741824) (d := 100) (by omega) (by omega) (by omega) (by omega)
        rw [if_neg hb, if_neg hb, if_pos rfl, if_pos rfl]
        generalize needs n m d = q at *
        rw [wrap64_id (a := q * d) (by omega) (by omega), wrap64_id (a := n * m) (by omega) (by omega), wrap64_id (a := q - 1) (by omega) (by omega), wrap64_id (a := (q - 1) * d) (by omega) (by omega), if_pos rg.2.2.2.1, if_pos rg.2.2.2.2]
        simp
        omega
    · by_cases h1 : n < 1
      · simp [h1, hn1, tarrylaw07_GoodsUnits.j0, al]
      · have h2 : n > 1073741824 := by omega
        simp [h1, hn1, h2, tarrylaw07_GoodsUnits.j0, al]

end Go.Proofs.Ytoiihpmncphplaa.Pure
