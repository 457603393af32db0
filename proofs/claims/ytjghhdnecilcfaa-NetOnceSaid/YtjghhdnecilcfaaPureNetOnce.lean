/- NetOnce: NetOnce: at every list of parcels and acts the statement's Go function answers true (parcels that are posted, and taken in whatever order, come as often as they were there, each as it was but for its number); no further condition. -/
import Derived.Test.YtjghhdnecilcfaaRNetOnce
namespace Go.Proofs.Ytjghhdnecilcfaa.Pure
open Go Go.RowKit Go.Proofs.Ytjghhdnecilcfaa.PNetOnce Go.Proofs.YtjghhdnecilcfaaV 
set_option linter.unusedSimpArgs false
set_option linter.unusedVariables false
theorem wf64 {a : Int} (h : (Lit.int .i64 a).wf = true) : -9223372036854775808 ≤ a ∧ a ≤ 9223372036854775807 := by
  simpa [Lit.wf, IntKind.min, IntKind.max, IntKind.signed, IntKind.bits] using h
theorem wrap64_id {a : Int} (h : -9223372036854775808 ≤ a) (h' : a ≤ 9223372036854775807) : wrap64 a = a := by
  unfold wrap64
  omega
/-! ### lists of pairs -/
theorem mget_mset {K V : Type} [BEq K] [LawfulBEq K] [DecidableEq K] (k k' : K) (v d : V) : ∀ m : List (K × V), mget (mset m k v) k' d = if k' = k then v else mget m k' d
  | [] => by
    rw [mset]
    show (if (k' == k) = true then v else mget [] k' d) = if k' = k then v else mget [] k' d
    by_cases h : k' = k
    · rw [if_pos h, if_pos (beq_iff_eq.2 h)]
    · rw [if_neg h, if_neg (fun q => h (eq_of_beq q))]
  | e :: m => by
    rw [mset]
    by_cases h : (k == e.1) = true
    · have h2 : k = e.1 := eq_of_beq h
      rw [if_pos h, mget, mget]
      simp only [beq_iff_eq]
      by_cases h3 : k' = k
      · rw [if_pos h3, if_pos h3]
      · rw [if_neg h3, if_neg h3, if_neg (by rw [← h2]; exact h3)]
    · have h2 : k ≠ e.1 := fun q => h (beq_iff_eq.2 q)
      rw [if_neg h, mget, mget, mget_mset k k' v d m]
      simp only [beq_iff_eq]
      by_cases h3 : k' = e.1
      · rw [if_pos h3, if_pos h3, if_neg (by rw [h3]; exact fun q => h2 q.symm)]
      · rw [if_neg h3, if_neg h3]
theorem mem_keys_mset {K V : Type} [BEq K] [LawfulBEq K] (k : K) (v : V) (z : K) : ∀ m : List (K × V), z ∈ (mset m k v).map (·.1) ↔ z = k ∨ z ∈ m.map (·.1)
  | [] => by simp [mset]
  | e :: m => by
    rw [mset]
    by_cases h : (k == e.1) = true
    · have h2 : k = e.1 := eq_of_beq h
      rw [if_pos h]
      simp only [List.map_cons, List.mem_cons, ← h2]
      grind
    · rw [if_neg h]
      simp only [List.map_cons, List.mem_cons, mem_keys_mset k v z m]
      grind
theorem keys_mset {K V : Type} [BEq K] [LawfulBEq K] (k : K) (v : V) : ∀ m : List (K × V), (m.map (·.1)).Nodup → ((mset m k v).map (·.1)).Nodup
  | [], _ => by simp [mset]
  | e :: m, h => by
    rw [List.map_cons, List.nodup_cons] at h
    rw [mset]
    by_cases hb : (k == e.1) = true
    · have h2 : k = e.1 := eq_of_beq hb
      rw [if_pos hb, List.map_cons, List.nodup_cons]
      exact ⟨by simpa [h2] using h.1, h.2⟩
    · have h2 : k ≠ e.1 := fun q => hb (beq_iff_eq.2 q)
      rw [if_neg hb, List.map_cons, List.nodup_cons]
      refine ⟨fun h3 => ?_, keys_mset k v m h.2⟩
      rcases (mem_keys_mset k v e.1 m).1 h3 with h4 | h4
      · exact h2 h4.symm
      · exact h.1 h4
theorem mget_mem {K V : Type} [BEq K] [LawfulBEq K] (d : V) : ∀ (m : List (K × V)), (m.map (·.1)).Nodup → ∀ e ∈ m, mget m e.1 d = e.2
  | [], _, e, h => by cases h
  | e' :: m, hn, e, h => by
    rw [List.map_cons, List.nodup_cons] at hn
    rw [mget]
    rcases List.mem_cons.1 h with rfl | h
    · rw [if_pos (by simp)]
    · have : e.1 ≠ e'.1 := fun q => hn.1 (by rw [← q]; exact List.mem_map_of_mem h)
      rw [if_neg (by simpa using this), mget_mem d m hn.2 e h]
theorem mget_none {K V : Type} [BEq K] [LawfulBEq K] (d : V) (k : K) : ∀ (m : List (K × V)), k ∉ m.map (·.1) → mget m k d = d
  | [], _ => rfl
  | e :: m, h => by
    rw [List.map_cons, List.mem_cons, not_or] at h
    rw [mget, if_neg (by simpa using h.1), mget_none d k m h.2]
theorem len_mset {K V : Type} [BEq K] [LawfulBEq K] [DecidableEq K] (k : K) (v : V) : ∀ m : List (K × V), (mset m k v).length = if k ∈ m.map (·.1) then m.length else m.length + 1
  | [] => by simp [mset]
  | e :: m => by
    rw [mset]
    by_cases h : (k == e.1) = true
    · have h2 : k = e.1 := eq_of_beq h
      rw [if_pos h, if_pos (by simp [h2])]
      rfl
    · have h2 : k ≠ e.1 := fun q => h (beq_iff_eq.2 q)
      rw [if_neg h, List.length_cons, len_mset k v m, List.map_cons, List.length_cons]
      by_cases h3 : k ∈ m.map (·.1)
      · rw [if_pos h3, if_pos (List.mem_cons_of_mem _ h3)]
      · rw [if_neg h3, if_neg (by rw [List.mem_cons, not_or]; exact ⟨h2, h3⟩)]
theorem sub_mdel {K V : Type} [BEq K] (k : K) : ∀ m : List (K × V), (mdel m k).Sublist m
  | [] => List.Sublist.refl _
  | e :: m => by
    rw [mdel]
    split
    · exact List.sublist_cons_self _ _
    · exact (sub_mdel k m).cons_cons _
theorem keys_mdel {K V : Type} [BEq K] (k : K) (m : List (K × V)) (h : (m.map (·.1)).Nodup) : ((mdel m k).map (·.1)).Nodup := h.sublist ((sub_mdel k m).map _)
theorem mem_keys_mdel {K V : Type} [BEq K] [LawfulBEq K] (k z : K) : ∀ m : List (K × V), (m.map (·.1)).Nodup → (z ∈ (mdel m k).map (·.1) ↔ z ≠ k ∧ z ∈ m.map (·.1))
  | [], _ => by simp [mdel]
  | e :: m, hn => by
    rw [List.map_cons, List.nodup_cons] at hn
    rw [mdel]
    by_cases h : (k == e.1) = true
    · have h2 : k = e.1 := eq_of_beq h
      rw [if_pos h, List.map_cons, List.mem_cons]
      constructor
      · intro h3
        exact ⟨fun q => hn.1 (by rw [← h2, ← q]; exact h3), .inr h3⟩
      · rintro ⟨h3, h4 | h4⟩
        · exact absurd (h4.trans h2.symm) h3
        · exact h4
    · have h2 : k ≠ e.1 := fun q => h (beq_iff_eq.2 q)
      rw [if_neg h, List.map_cons, List.mem_cons, mem_keys_mdel k z m hn.2, List.map_cons, List.mem_cons]
      constructor
      · rintro (h3 | h3)
        · exact ⟨fun q => h2 (q.symm.trans h3), .inl h3⟩
        · exact ⟨h3.1, .inr h3.2⟩
      · rintro ⟨h3, h4 | h4⟩
        · exact .inl h4
        · exact .inr ⟨h3, h4⟩
theorem mget_mdel {K V : Type} [BEq K] [LawfulBEq K] [DecidableEq K] (k k' : K) (d : V) : ∀ m : List (K × V), (m.map (·.1)).Nodup → mget (mdel m k) k' d = if k' = k then d else mget m k' d
  | [], _ => by
    rw [mdel, mget]
    simp
  | e :: m, hn => by
    rw [List.map_cons, List.nodup_cons] at hn
    rw [mdel]
    by_cases h : (k == e.1) = true
    · have h2 : k = e.1 := eq_of_beq h
      rw [if_pos h]
      by_cases h3 : k' = k
      · rw [if_pos h3, mget_none d k' m (by rw [h3, h2]; exact hn.1)]
      · rw [if_neg h3, mget, if_neg (by rw [← h2]; simpa using h3)]
    · have h2 : k ≠ e.1 := fun q => h (beq_iff_eq.2 q)
      rw [if_neg h, mget, mget, mget_mdel k k' d m hn.2]
      by_cases h3 : (k' == e.1) = true
      · have h4 : k' = e.1 := eq_of_beq h3
        rw [if_pos h3, if_pos h3, if_neg (by rw [h4]; exact fun q => h2 q.symm)]
      · rw [if_neg h3, if_neg h3]
theorem len_mdel {K V : Type} [BEq K] [LawfulBEq K] (k : K) : ∀ m : List (K × V), k ∈ m.map (·.1) → (mdel m k).length + 1 = m.length
  | [], h => by simp at h
  | e :: m, h => by
    rw [mdel]
    by_cases hb : (k == e.1) = true
    · rw [if_pos hb]
      rfl
    · have h2 : k ≠ e.1 := fun q => hb (beq_iff_eq.2 q)
      rw [List.map_cons, List.mem_cons] at h
      rcases h with h | h
      · exact absurd h h2
      · rw [if_neg hb, List.length_cons, len_mdel k m h, List.length_cons]
instance : DecidableEq S25 := fun x y => decidable_of_iff (x.f0 = y.f0 ∧ x.f1 = y.f1 ∧ x.f2 = y.f2 ∧ x.f3 = y.f3 ∧ x.f4 = y.f4 ∧ x.f5 = y.f5) (by cases x; cases y; simp)
/-- Which parcel may be. -/
def mayB (x : S25) : Bool := decide (1 ≤ x.f2 ∧ x.f2 ≤ 1099511627776) && (decide (1 ≤ x.f4 ∧ x.f4 ≤ 1099511627776) && (decide (1 ≤ x.f3 ∧ x.f3 ≤ 3) && (!x.f5 || (x.f1 && x.f3 == 3))))
def okB (last : Int) (x : S25) : Bool := mayB x && decide (1 ≤ x.f0 ∧ x.f0 ≤ last)
def rightB (l : List S25) (last : Int) : Bool := l.all (okB last) && decide (l.length ≤ 64 ∧ 0 ≤ last ∧ last ≤ 1099511627776)
theorem number_tells (a : Int) : net_number.f a = some (decide (1 ≤ a ∧ a ≤ 1099511627776)) := by
  unfold net_number.f
  split <;> simp <;> omega
theorem may_tells (a : Int) (b : Bool) (c d e : Int) (f : Bool) : net_may.f a b c d e f = some (mayB ⟨a, b, c, d, e, f⟩) := by
  unfold net_may.f mayB
  simp only [number_tells, Option.bind_some, decide_eq_true_eq]
  by_cases h1 : 1 ≤ c ∧ c ≤ 1099511627776
  · by_cases h2 : 1 ≤ e ∧ e ≤ 1099511627776
    · rw [if_pos h1, if_pos h2, decide_eq_true h1, decide_eq_true h2]
      by_cases h3 : d ≥ 1
      · by_cases h4 : d ≤ 3
        · rw [if_pos h3, if_pos h4, decide_eq_true (show 1 ≤ d ∧ d ≤ 3 from ⟨h3, h4⟩)]
          cases f <;> cases b <;> simp
        · rw [if_pos h3, if_neg h4, decide_eq_false (show ¬ (1 ≤ d ∧ d ≤ 3) by omega)]
          simp
      · rw [if_neg h3, decide_eq_false (show ¬ (1 ≤ d ∧ d ≤ 3) by omega)]
        simp
    · rw [if_pos h1, if_neg h2, decide_eq_false h2]
      simp
  · rw [if_neg h1, decide_eq_false h1]
    simp
theorem in_tells (a : Int) : tarrylaw15_in.f a = some (decide (1 ≤ a ∧ a ≤ 1099511627776)) := by
  unfold tarrylaw15_in.f
  split <;> simp <;> omega
theorem lmay_tells (a : Int) (b : Bool) (c d e : Int) (f : Bool) : tarrylaw15_may.f a b c d e f = some (mayB ⟨a, b, c, d, e, f⟩) := by
  unfold tarrylaw15_may.f mayB
  simp only [in_tells, Option.bind_some, decide_eq_true_eq]
  cases f <;> cases b <;> simp <;> grind
theorem right_tells (k : Nat) (l : List S25) (last : Int) (hl : l.length ≤ 1000000) (hk : l.length < k) : net_Right.f k l last = some (rightB l last) := by
  have key : ∀ xs : List S25, net_Right.r1 k last l xs = some (xs.all (okB last) && decide (l.length ≤ 64 ∧ 0 ≤ last ∧ last ≤ 1099511627776)) := by
    intro xs
    induction xs with
    | nil =>
      rw [net_Right.r1, List.all_nil, Bool.true_and]
      by_cases a1 : (l.length : Int) ≤ 64
      · rw [if_pos a1]
        by_cases a2 : last ≥ 0
        · rw [if_pos a2]
          congr 1
          apply decide_eq_decide.2
          omega
        · rw [if_neg a2, decide_eq_false (by omega)]
      · rw [if_neg a1, decide_eq_false (by omega)]
    | cons x xs ih =>
      rw [net_Right.r1, may_tells, Option.bind_some, ih, List.all_cons]
      unfold okB
      by_cases b1 : mayB x = true
      · rw [if_pos b1]
        by_cases b2 : x.f0 < 1
        · rw [if_pos b2, decide_eq_false (show ¬ (1 ≤ x.f0 ∧ x.f0 ≤ last) by omega)]
          simp
        · rw [if_neg b2]
          by_cases b3 : x.f0 > last
          · rw [if_pos b3, decide_eq_false (show ¬ (1 ≤ x.f0 ∧ x.f0 ≤ last) by omega)]
            simp
          · rw [if_neg b3, decide_eq_true (show 1 ≤ x.f0 ∧ x.f0 ≤ last by omega), show mayB x = true from b1]
            rfl
      · rw [if_neg b1]
        replace b1 : mayB x = false := Bool.eq_false_iff.mpr b1
        rw [b1]
        simp
  unfold net_Right.f rightB
  have := net_Right.r1_eq k last l (by omega) k 0 (by omega) (by omega)
  rw [show ((0 : Nat) : Int) = 0 from rfl, List.drop_zero] at this
  rw [this, key]
theorem right_few {l : List S25} {last : Int} (h : rightB l last = true) : l.length ≤ 64 ∧ 0 ≤ last ∧ last ≤ 1099511627776 := by
  unfold rightB at h
  simp only [Bool.and_eq_true, decide_eq_true_eq] at h
  exact h.2
theorem behind_tells (l m : List S25) (h : l.length + m.length ≤ 1000000) : net_behind.f l m = some (l ++ m) := by
  unfold net_behind.f
  rw [if_pos (by omega)]
theorem post_tells (k : Nat) (l : List S25) (last a : Int) (b : Bool) (c d e : Int) (f : Bool) (hl : l.length ≤ 1000000) (hk : l.length < k) :
    net_Post.f k l last a b c d e f = some (if rightB l last = true ∧ mayB ⟨a, b, c, d, e, f⟩ = true then (if l.length = 64 ∨ last = 1099511627776 then ([], 0, 0, 7) else (l ++ [⟨last + 1, b, c, d, e, f⟩], last + 1, last + 1, 0)) else ([], 0, 0, 1)) := by
  simp only [net_Post.f, right_tells _ l last hl hk, may_tells, Option.bind_some]
  by_cases h1 : rightB l last = true
  · by_cases h2 : mayB ⟨a, b, c, d, e, f⟩ = true
    · have hf := right_few h1
      rw [if_pos h1, if_pos h2, if_pos (show _ ∧ _ from ⟨h1, h2⟩)]
      by_cases h3 : l.length = 64
      · rw [if_pos (by omega), if_pos (.inl h3)]
      · rw [if_neg (by omega)]
        by_cases h4 : last = 1099511627776
        · rw [if_pos h4, if_pos (.inr h4)]
        · rw [if_neg h4, if_neg (by omega), behind_tells _ _ (by simp only [List.length_singleton]; omega), wrap64_id (by omega) (by omega)]
          rfl
    · rw [if_pos h1, if_neg h2, if_neg (fun h => h2 h.2)]
  · rw [if_neg h1, if_neg (fun h => h1 h.1)]
theorem take_bad (k : Nat) (l : List S25) (last pl : Int) (hl : l.length ≤ 1000000) (hk : l.length < k) (h1 : ¬ rightB l last = true) : net_Take.f k l last pl = some ([], 0, 0, false, 0, 0, 0, false, 1) := by
  simp only [net_Take.f, right_tells _ l last hl hk, Option.bind_some]
  rw [if_neg h1]
theorem take_none (k : Nat) (l : List S25) (last pl : Int) (hl : l.length ≤ 1000000) (hk : l.length < k) (h1 : rightB l last = true) (h2 : pl < 0 ∨ pl ≥ (l.length : Int)) : net_Take.f k l last pl = some ([], 0, 0, false, 0, 0, 0, false, 8) := by
  simp only [net_Take.f, right_tells _ l last hl hk, Option.bind_some]
  rw [if_pos h1]
  by_cases h3 : pl < 0
  · rw [if_pos h3]
  · rw [if_neg h3, if_pos (by omega)]
theorem take_tells (k : Nat) (l : List S25) (last pl : Int) (x : S25) (hl : l.length ≤ 1000000) (hk : l.length < k) (h1 : rightB l last = true) (h2 : 0 ≤ pl) (h3 : pl < (l.length : Int)) (hx : l[pl.toNat]? = some x) :
    net_Take.f k l last pl = some (l.take pl.toNat ++ l.drop (pl.toNat + 1), last, x.f0, x.f1, x.f2, x.f3, x.f4, x.f5, 0) := by
  have hf := right_few h1
  simp only [net_Take.f, right_tells _ l last hl hk, Option.bind_some]
  have hw : wrap64 (pl + 1) = pl + 1 := wrap64_id (by omega) (by omega)
  rw [if_pos h1, if_neg (by omega), if_neg (by omega), if_pos h2, hx, Option.bind_some, hw, if_pos (by omega), if_pos (by omega), if_pos (by omega), List.take_length, List.drop_zero,
    behind_tells _ _ (by simp only [List.length_take, List.length_drop]; omega), show (pl + 1).toNat = pl.toNat + 1 by omega]
  rfl
theorem alive_tells (k : Nat) (hk : 2 ≤ k) : tarrylaw15_alive.f k = some true := by
  have h1 := post_tells k [] 0 0 false 5 1 7 false (by decide) (by simp; omega)
  rw [if_pos (by decide), if_neg (by decide)] at h1
  have h2 := take_tells k [⟨1, false, 5, 1, 7, false⟩] 1 0 ⟨1, false, 5, 1, 7, false⟩ (by decide) (by simp; omega) (by decide) (by decide) (by decide) rfl
  rw [tarrylaw15_alive.f, h1]
  simp only [Option.bind_some, List.nil_append, Int.zero_add]
  rw [h2]
  rfl
theorem same_tells (x y : S25) : (((x.f0 == y.f0) && ((x.f1 == y.f1) && ((x.f2 == y.f2) && ((x.f3 == y.f3) && ((x.f4 == y.f4) && (x.f5 == y.f5))))))) = decide (x = y) := by
  obtain ⟨a0, a1, a2, a3, a4, a5⟩ := x
  obtain ⟨b0, b1, b2, b3, b4, b5⟩ := y
  rw [Bool.eq_iff_iff]
  simp
theorem twice_tells (k : Nat) (l : List S25) (last : Int) (n : Nat) (x : S25) (hl : l.length ≤ 1000000 - 10) (hk : l.length < k) (h1 : rightB l last = true) (hx : l[n]? = some x) :
    net_Twice.f k l last (n : Int) = some (if l.length = 64 then ([], 0, 7) else (l ++ [x], last, 0)) := by
  have hn := (List.getElem?_eq_some_iff.1 hx).1
  rw [net_Twice.f, take_tells k l last (n : Int) x (by omega) hk h1 (by omega) (by omega) (by rw [Int.toNat_natCast]; exact hx)]
  simp only [Option.bind_some]
  rw [if_pos True.intro]
  by_cases h3 : l.length = 64
  · rw [if_pos (by omega), if_pos h3]
  · rw [if_neg (by omega), if_neg h3, behind_tells _ _ (by simp only [List.length_singleton]; omega)]
    rfl
theorem last_tells (k : Nat) (l : List S25) (last : Int) (n : Nat) (x : S25) (hl : l.length ≤ 1000000 - 10) (hk : l.length < k) (h1 : rightB l last = true) (hx : l[n]? = some x) :
    net_Last.f k l last (n : Int) = some (l.take n ++ l.drop (n + 1) ++ [x], last, 0) := by
  have hn := (List.getElem?_eq_some_iff.1 hx).1
  rw [net_Last.f, take_tells k l last (n : Int) x (by omega) hk h1 (by omega) (by omega) (by rw [Int.toNat_natCast]; exact hx)]
  simp only [Option.bind_some, Int.toNat_natCast]
  rw [if_pos True.intro, behind_tells _ _ (by simp only [List.length_append, List.length_take, List.length_drop, List.length_singleton]; omega)]
  rfl
/-- How many there are of a number. -/
def cnt (l : List S25) (n : Int) : Nat := l.countP (fun p => p.f0 == n)
theorem cnt_app (a b : List S25) (n : Int) : cnt (a ++ b) n = cnt a n + cnt b n := List.countP_append ..
theorem cnt_one (x : S25) (n : Int) : cnt [x] n = if n = x.f0 then 1 else 0 := by
  unfold cnt
  by_cases h : n = x.f0
  · rw [if_pos h, h]; simp
  · rw [if_neg h]
    simp
    exact fun q => h q.symm
theorem cnt_le (l : List S25) (n : Int) : cnt l n ≤ l.length := List.countP_le_length
theorem cnt_split {l : List S25} {i : Nat} {x : S25} (hx : l[i]? = some x) (n : Int) : cnt l n = cnt (l.take i ++ l.drop (i + 1)) n + cnt [x] n := by
  have hi := (List.getElem?_eq_some_iff.1 hx).1
  have hs : l = l.take i ++ x :: l.drop (i + 1) := by
    conv => lhs; rw [← List.take_append_drop i l]
    rw [List.drop_eq_getElem_cons hi]
    congr 2
    exact Option.some.inj ((List.getElem?_eq_getElem hi).symm.trans hx)
  conv => lhs; rw [hs]
  rw [cnt_app, cnt_app, show x :: l.drop (i + 1) = [x] ++ l.drop (i + 1) from rfl, cnt_app]
  omega
/-- What holds as time goes on. -/
structure Nv (sent fl : List S25) (last : Int) (m : List (Int × Int)) : Prop where
  right : rightB fl last = true
  last : last = sent.length
  was : ∀ p ∈ fl, sent[(p.f0 - 1).toNat]? = some p
  keys : (m.map (·.1)).Nodup
  count : ∀ n : Int, mget m n 0 = cnt fl n
theorem ok_sub {l : List S25} {last : Int} (h : rightB l last = true) {l' : List S25} (hs : ∀ p ∈ l', p ∈ l) (hl : l'.length ≤ 64) : rightB l' last = true := by
  have hf := right_few h
  unfold rightB at *
  simp only [Bool.and_eq_true, decide_eq_true_eq, List.all_eq_true] at *
  exact ⟨fun p hp => h.1 p (hs p hp), hl, hf.2⟩
theorem ok_f0 {l : List S25} {last : Int} (h : rightB l last = true) {p : S25} (hp : p ∈ l) : 1 ≤ p.f0 ∧ p.f0 ≤ last ∧ mayB p = true := by
  unfold rightB at h
  simp only [Bool.and_eq_true, List.all_eq_true] at h
  have := h.1 p hp
  unfold okB at this
  simp only [Bool.and_eq_true, decide_eq_true_eq] at this
  exact ⟨this.2.1, this.2.2, this.1⟩
theorem may_no {a a' : Int} {b : Bool} {c d e : Int} {f : Bool} : mayB ⟨a, b, c, d, e, f⟩ = mayB ⟨a', b, c, d, e, f⟩ := rfl
theorem end_ok (k : Nat) (hk : 100 ≤ k) (sent fl : List S25) (last : Int) (m : List (Int × Int)) (h : Nv sent fl last m) : tarrylaw15_NetOnce.j988 k fl last m = some true := by
  have hf := right_few h.right
  have key : ∀ (xs : List S25) (m : List (Int × Int)), xs.length ≤ 64 → (m.map (·.1)).Nodup → (∀ n : Int, mget m n 0 = cnt xs n) → tarrylaw15_NetOnce.r993 k last fl xs m = some true := by
    intro xs
    induction xs with
    | nil =>
      intro m _ hk2 hc
      have hall : (m.all fun z => (tarrylaw15_NetOnce.b997 k z.1 z.2).isSome) = true := by
        rw [List.all_eq_true]
        intro z hz
        have h2 := mget_mem (0 : Int) m hk2 z hz
        rw [hc z.1] at h2
        have h3 : z.2 = 0 := by rw [← h2]; rfl
        unfold tarrylaw15_NetOnce.b997
        rw [if_pos h3]
        rfl
      rw [tarrylaw15_NetOnce.r993, if_pos hall, alive_tells k (by omega), Option.bind_some, if_pos rfl, right_tells k fl last (by omega) (by omega), Option.bind_some, h.right]
    | cons x xs ih =>
      intro m hxl hk2 hc
      simp only [List.length_cons] at hxl
      have hle := cnt_le xs x.f0
      have hx : mget m x.f0 0 = cnt xs x.f0 + 1 := by
        rw [hc, show x :: xs = [x] ++ xs from rfl, cnt_app, cnt_one, if_pos rfl]
        omega
      rw [tarrylaw15_NetOnce.r993]
      refine ih _ (by omega) (keys_mset _ _ m hk2) fun n => ?_
      rw [mget_mset, hx, wrap64_id (by omega) (by omega)]
      by_cases hn : n = x.f0
      · rw [if_pos hn, hn]
        omega
      · rw [if_neg hn, hc, show x :: xs = [x] ++ xs from rfl, cnt_app, cnt_one, if_neg hn, Nat.zero_add]
  unfold tarrylaw15_NetOnce.j988
  have h2 := tarrylaw15_NetOnce.r993_eq k last fl (by omega) k 0 m (by omega) (by omega)
  rw [show ((0 : Nat) : Int) = 0 from rfl, List.drop_zero] at h2
  rw [h2]
  exact key fl m (by omega) h.keys h.count
theorem turn_ok (a : Int) (n : Nat) (hn : 0 < n) (hb : n ≤ 1000) : 0 ≤ (wrap64 (a.tmod (n : Int) + (n : Int))).tmod (n : Int) ∧ (wrap64 (a.tmod (n : Int) + (n : Int))).tmod (n : Int) < n := by
  have h1 : a.tmod (n : Int) < n := Int.tmod_lt_of_pos a (by omega)
  have h2 : -(n : Int) < a.tmod (n : Int) := Int.lt_tmod_of_pos a (by omega)
  generalize a.tmod (n : Int) = q at *
  have hw : wrap64 (q + n) = q + n := wrap64_id (by omega) (by omega)
  rw [hw]
  exact ⟨Int.tmod_nonneg _ (by omega), Int.tmod_lt_of_pos _ (by omega)⟩
theorem act_ok (k : Nat) (hk : 100 ≤ k) (sent : List S25) (hs : sent.length ≤ 1000) (rec : Int → List S25 → Int → List (Int × Int) → Option Bool) (i : Int) (hr : ∀ fl last m, Nv sent fl last m → rec (wrap64 (i + 1)) fl last m = some true) (fl : List S25) (last : Int) (m : List (Int × Int)) (x : Int) (h : Nv sent fl last m) (q1 q2 q3 : Bool) (hq : q3 = false → fl.length ≠ 0) : tarrylaw15_NetOnce.j991 k rec i last sent fl m x q1 q2 q3 = some true := by
    have hf := right_few h.right
    unfold tarrylaw15_NetOnce.j991
    by_cases hq3 : q3 = true
    · rw [if_pos hq3]
      exact end_ok k hk sent fl last m h
    rw [if_neg hq3]
    rcases Nat.eq_zero_or_pos fl.length with h0 | h0
    · exact absurd h0 (hq (by simpa using hq3))
    rw [if_pos (by omega)]
    obtain ⟨t1, t2⟩ := turn_ok (IntKind.i64.wrap (x.tdiv 3)) fl.length h0 (by omega)
    generalize (wrap64 ((IntKind.i64.wrap (x.tdiv 3)).tmod (fl.length : Int) + (fl.length : Int))).tmod (fl.length : Int) = q at *
    generalize (wrap64 (x.tmod 3 + 3)).tmod 3 = kind
    obtain ⟨n, rfl⟩ : ∃ n : Nat, q = (n : Int) := ⟨q.toNat, by omega⟩
    have hn : n < fl.length := by omega
    have hx : fl[n]? = some fl[n] := List.getElem?_eq_getElem hn
    have hmem : fl[n] ∈ fl := List.getElem_mem hn
    rw [if_pos t1, Int.toNat_natCast, hx, Option.bind_some]
    generalize fl[n] = p at hx hmem
    obtain ⟨p1, p2, p3⟩ := ok_f0 h.right hmem
    have hcp : mget m p.f0 0 = cnt (fl.take n ++ fl.drop (n + 1)) p.f0 + 1 := by
      rw [h.count, cnt_split hx, cnt_one, if_pos rfl]
      omega
    have hc64 := cnt_le (fl.take n ++ fl.drop (n + 1)) p.f0
    have hlen : (fl.take n ++ fl.drop (n + 1)).length + 1 = fl.length := by
      rw [List.length_append, List.length_take, List.length_drop]
      omega
    have hsub : ∀ z ∈ fl.take n ++ fl.drop (n + 1), z ∈ fl := fun z hz => by
      rcases List.mem_append.1 hz with hz | hz
      · exact (List.take_subset _ _) hz
      · exact (List.drop_subset _ _) hz
    by_cases k0 : kind = 0
    · rw [if_pos k0, take_tells k fl last (n : Int) p (by omega) (by omega) h.right (by omega) (by omega) (by rw [Int.toNat_natCast]; exact hx), Option.bind_some]
      simp only [Int.toNat_natCast]
      have hl := h.last
      have hw : wrap64 (p.f0 - 1) = p.f0 - 1 := wrap64_id (by omega) (by omega)
      rw [if_pos True.intro, if_neg (by omega), if_neg (by omega), hw, if_pos (by omega), h.was p hmem, Option.bind_some, if_pos (by simp), if_neg (by omega)]
      refine hr _ _ _ ⟨ok_sub h.right hsub (by omega), h.last, fun z hz => h.was z (hsub z hz), keys_mset _ _ m h.keys, fun z => ?_⟩
      rw [mget_mset, hcp, wrap64_id (by omega) (by omega)]
      by_cases hz : z = p.f0
      · rw [if_pos hz, hz]
        omega
      · rw [if_neg hz, h.count, cnt_split hx, cnt_one, if_neg hz]
        rfl
    · rw [if_neg k0]
      by_cases k1 : kind = 1
      · rw [if_pos k1, twice_tells k fl last n p (by omega) (by omega) h.right hx, Option.bind_some]
        by_cases h64 : fl.length = 64
        · rw [if_pos h64]
          simp only
          rw [if_neg (by omega), if_pos True.intro, if_neg (by omega)]
          exact hr _ _ _ h
        · rw [if_neg h64]
          simp only
          rw [if_pos True.intro, if_pos True.intro]
          refine hr _ _ _ ⟨ok_sub h.right (fun z hz => ?_) (by simp; omega), h.last, fun z hz => ?_, keys_mset _ _ m h.keys, fun z => ?_⟩
          · rcases List.mem_append.1 hz with hz | hz
            · exact hz
            · exact List.mem_singleton.1 hz ▸ hmem
          · rcases List.mem_append.1 hz with hz | hz
            · exact h.was z hz
            · exact List.mem_singleton.1 hz ▸ h.was p hmem
          · have e : cnt (fl ++ [p]) z = cnt fl z + cnt [p] z := cnt_app fl [p] z
            rw [mget_mset, hcp, wrap64_id (by omega) (by omega), e, cnt_one]
            by_cases hz : z = p.f0
            · rw [if_pos hz, if_pos hz, hz, cnt_split hx, cnt_one, if_pos rfl]
              omega
            · rw [if_neg hz, if_neg hz, h.count]
              rfl
      · rw [if_neg k1, last_tells k fl last n p (by omega) (by omega) h.right hx, Option.bind_some]
        simp only
        rw [if_pos True.intro]
        refine hr _ _ _ ⟨ok_sub h.right (fun z hz => ?_) (by rw [List.length_append, List.length_singleton]; omega), h.last, fun z hz => ?_, h.keys, fun z => ?_⟩
        · rcases List.mem_append.1 hz with hz | hz
          · exact hsub z hz
          · exact List.mem_singleton.1 hz ▸ hmem
        · rcases List.mem_append.1 hz with hz | hz
          · exact h.was z (hsub z hz)
          · exact List.mem_singleton.1 hz ▸ h.was p hmem
        · have e : cnt (fl.take n ++ fl.drop (n + 1) ++ [p]) z = cnt (fl.take n ++ fl.drop (n + 1)) z + cnt [p] z := cnt_app _ [p] z
          rw [h.count, cnt_split hx, e]
theorem acts_ok (k : Nat) (hk : 100 ≤ k) (l1 : List Int) (sent : List S25) (hs : sent.length ≤ 1000) : ∀ (d n i : Nat) (fl : List S25) (last : Int) (m : List (Int × Int)), i + d = 41 → d < n → Nv sent fl last m → tarrylaw15_NetOnce.l989 k l1 sent n (i : Int) fl last m = some true := by
  intro d
  induction d with
  | zero =>
    intro n i fl last m hi hn h
    obtain ⟨n, rfl⟩ : ∃ q, n = q + 1 := ⟨n - 1, by omega⟩
    rw [tarrylaw15_NetOnce.l989]
    by_cases hl : (i : Int) < (l1.length : Int)
    · rw [if_pos hl, if_pos (by omega), Int.toNat_natCast, List.getElem?_eq_getElem (by omega), Option.bind_some, if_pos (by omega)]
      unfold tarrylaw15_NetOnce.j991
      rw [if_pos rfl]
      exact end_ok k hk sent fl last m h
    · rw [if_neg hl]
      exact end_ok k hk sent fl last m h
  | succ d ih =>
    intro n i fl last m hi hn h
    obtain ⟨n, rfl⟩ : ∃ q, n = q + 1 := ⟨n - 1, by omega⟩
    have hw : wrap64 ((i : Int) + 1) = ((i + 1 : Nat) : Int) := by rw [wrap64_id (by omega) (by omega)]; omega
    have hr : ∀ fl last m, Nv sent fl last m → tarrylaw15_NetOnce.l989 k l1 sent n (wrap64 ((i : Int) + 1)) fl last m = some true := by
      intro fl last m h
      rw [hw]
      exact ih n (i + 1) fl last m (by omega) (by omega) h
    rw [tarrylaw15_NetOnce.l989]
    by_cases hl : (i : Int) < (l1.length : Int)
    · rw [if_pos hl, if_pos (by omega), Int.toNat_natCast, List.getElem?_eq_getElem (by omega), Option.bind_some]
      split
      · exact act_ok k hk sent hs _ _ hr fl last m _ h _ _ _ (fun q => by cases q)
      · exact act_ok k hk sent hs _ _ hr fl last m _ h _ _ _ (fun q => by rw [beq_eq_false_iff_ne] at q; omega)
    · rw [if_neg hl]
      exact end_ok k hk sent fl last m h
theorem NetOnce : tarrylaw15_NetOnce.Pure := by
  intro l0 l1 _ _
  refine ⟨200, ?_⟩
  generalize hkd : 200 = k
  have fin : ∀ (sent fl : List S25) (last : Int) (m : List (Int × Int)), sent.length ≤ 20 → Nv sent fl last m → tarrylaw15_NetOnce.j854 k l1 sent fl last m = some true := by
    intro sent fl last m hs h
    unfold tarrylaw15_NetOnce.j854
    exact acts_ok k (by omega) l1 sent (by omega) 41 k 0 fl last m (by omega) (by omega) h
  have key : ∀ (d n i : Nat) (sent fl : List S25) (last : Int) (m : List (Int × Int)), i + d = 20 → d < n → sent.length ≤ i → fl.length ≤ sent.length → Nv sent fl last m → tarrylaw15_NetOnce.l855 k l0 l1 n sent (i : Int) fl last m = some true := by
    intro d
    induction d with
    | zero =>
      intro n i sent fl last m hi hn h1 h2 h
      obtain ⟨n, rfl⟩ : ∃ q, n = q + 1 := ⟨n - 1, by omega⟩
      rw [tarrylaw15_NetOnce.l855]
      by_cases hl : (i : Int) < (l0.length : Int)
      · rw [if_pos hl, if_pos (by omega), Int.toNat_natCast, List.getElem?_eq_getElem (by omega), Option.bind_some, if_pos (by omega)]
        exact fin sent fl last m (by omega) h
      · rw [if_neg hl]
        exact fin sent fl last m (by omega) h
    | succ d ih0 =>
      intro n i sent fl last m hi0 hn h1 h2 h
      obtain ⟨n, rfl⟩ : ∃ q, n = q + 1 := ⟨n - 1, by omega⟩
      have hw : wrap64 ((i : Int) + 1) = ((i + 1 : Nat) : Int) := by rw [wrap64_id (by omega) (by omega)]; omega
      have hl := h.last
      rw [tarrylaw15_NetOnce.l855]
      by_cases hll : (i : Int) < (l0.length : Int)
      case neg =>
        rw [if_neg hll]
        exact fin sent fl last m (by omega) h
      rw [if_pos hll, if_pos (by omega), Int.toNat_natCast, List.getElem?_eq_getElem (by omega), Option.bind_some]
      generalize l0[i]'(by omega) = x
      rw [hw]
      have ih : ∀ (sent fl : List S25) (last : Int) (m : List (Int × Int)), sent.length ≤ i + 1 → fl.length ≤ sent.length → Nv sent fl last m → tarrylaw15_NetOnce.l855 k l0 l1 n sent ((i + 1 : Nat) : Int) fl last m = some true := fun sent fl last m h1 h2 h => ih0 n (i + 1) sent fl last m (by omega) (by omega) h1 h2 h
      by_cases hi : (i : Int) ≥ 20
      · rw [if_pos hi]
        exact fin sent fl last m (by omega) h
      rw [if_neg hi, post_tells k fl last x.f0 x.f1 x.f2 x.f3 x.f4 x.f5 (by omega) (by omega), Option.bind_some]
      by_cases hm : mayB ⟨x.f0, x.f1, x.f2, x.f3, x.f4, x.f5⟩ = true
      · rw [if_pos ⟨h.right, hm⟩, if_neg (by omega)]
        simp only
        rw [if_pos True.intro, wrap64_id (by omega) (by omega), if_pos (by omega), if_pos (by simp; omega)]
        have hrf := right_few h.right
        have hcnt : cnt fl (last + 1) = 0 := by
          unfold cnt
          rw [List.countP_eq_zero]
          intro p hp
          have := ok_f0 h.right hp
          simp
          omega
        refine ih _ _ _ _ (by simp; omega) (by simp; omega) ⟨?_, by simp; omega, fun p hp => ?_, keys_mset _ _ m h.keys, fun n => ?_⟩
        · unfold rightB
          simp only [Bool.and_eq_true, decide_eq_true_eq, List.all_eq_true, List.mem_append, List.mem_singleton, List.length_append, List.length_singleton]
          refine ⟨fun p hp => ?_, by omega, by omega, by omega⟩
          unfold okB
          simp only [Bool.and_eq_true, decide_eq_true_eq]
          rcases hp with hp | rfl
          · have := ok_f0 h.right hp
            exact ⟨this.2.2, this.1, by omega⟩
          · exact ⟨hm, by simp; omega, by simp⟩
        · rcases List.mem_append.1 hp with hp | hp
          · have h4 := h.was p hp
            have := (List.getElem?_eq_some_iff.1 h4).1
            rw [List.getElem?_append_left this]
            exact h4
          · obtain rfl := List.mem_singleton.1 hp
            simp only
            rw [show (last + 1 - 1).toNat = sent.length by omega, List.getElem?_append_right (Nat.le_refl _), Nat.sub_self]
            rfl
        · have hz : mget m (last + 1) 0 = 0 := by rw [h.count, hcnt]; rfl
          rw [mget_mset, hz, wrap64_id (by omega) (by omega), cnt_app, cnt_one]
          by_cases hn : n = last + 1
          · rw [if_pos hn, if_pos hn, hn, hcnt]
            rfl
          · rw [if_neg hn, if_neg hn, h.count]
            rfl
      · rw [if_neg (fun q => hm q.2)]
        simp only
        rw [if_neg (by omega), lmay_tells, Option.bind_some, if_neg hm]
        exact ih sent fl last m (by omega) h2 h
  unfold tarrylaw15_NetOnce.f
  exact key 20 k 0 [] [] 0 [] (by omega) (by omega) (by simp) (by simp) ⟨by decide, rfl, fun p hp => (by cases hp), List.Pairwise.nil, fun n => rfl⟩
end Go.Proofs.Ytjghhdnecilcfaa.Pure
