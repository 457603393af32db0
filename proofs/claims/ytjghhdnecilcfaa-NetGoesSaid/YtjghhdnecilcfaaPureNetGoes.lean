/- NetGoes: which nets may be, and what posting any parcel, taking one, having it be there twice, and last, makes of any, is as the document says: the statement's Go function answers true at every input; no further condition. -/
import Derived.Test.YtjghhdnecilcfaaPNetGoesx0
namespace Go.Proofs.Ytjghhdnecilcfaa.Pure
open Go Go.RowKit Go.Proofs.Ytjghhdnecilcfaa.PNetGoes Go.Proofs.YtjghhdnecilcfaaV
set_option linter.unusedSimpArgs false
theorem wf64 {a : Int} (h : (Lit.int .i64 a).wf = true) : -9223372036854775808 ≤ a ∧ a ≤ 9223372036854775807 := by
  simpa [Lit.wf, IntKind.min, IntKind.max, IntKind.signed, IntKind.bits] using h
theorem wrap64_id {a : Int} (h : -9223372036854775808 ≤ a) (h' : a ≤ 9223372036854775807) : wrap64 a = a := by
  unfold wrap64
  omega
instance : DecidableEq S25 := fun x y => decidable_of_iff (x.f0 = y.f0 ∧ x.f1 = y.f1 ∧ x.f2 = y.f2 ∧ x.f3 = y.f3 ∧ x.f4 = y.f4 ∧ x.f5 = y.f5) (by cases x; cases y; simp)
/-- Which parcel may be. -/
def mayB (x : S25) : Bool := decide (1 ≤ x.f2 ∧ x.f2 ≤ 1099511627776) && (decide (1 ≤ x.f4 ∧ x.f4 ≤ 1099511627776) && (decide (1 ≤ x.f3 ∧ x.f3 ≤ 3) && (!x.f5 || (x.f1 && x.f3 == 3))))
def okB (last : Int) (x : S25) : Bool := mayB x && decide (1 ≤ x.f0 ∧ x.f0 ≤ last)
def rightB (l : List S25) (last : Int) : Bool := l.all (okB last) && decide (l.length ≤ 64 ∧ 0 ≤ last ∧ last ≤ 1099511627776)
theorem number_tells (a : Int) : net_number.f a = some (decide (1 ≤ a ∧ a ≤ 1099511627776)) := by
  unfold net_number.f
  split <;> simp <;> omega
theorem may_tells (a : Int) (b : Bool) (c d e : Int) (f : Bool) : net_may.f a b c d e f = some (mayB ⟨a, b, c, d, e, f⟩) := by
  unfold net_may.f mayB
  simp only [number_tells, Option.bind_some, decide_eq_true_eq]
  by_cases h1 : 1 ≤ c ∧ c ≤ 1099511627776
  · by_cases h2 : 1 ≤ e ∧ e ≤ 1099511627776
    · rw [if_pos h1, if_pos h2, decide_eq_true h1, decide_eq_true h2]
      by_cases h3 : d ≥ 1
      · by_cases h4 : d ≤ 3
        · rw [if_pos h3, if_pos h4, decide_eq_true (show 1 ≤ d ∧ d ≤ 3 from ⟨h3, h4⟩)]
          cases f <;> cases b <;> simp
        · rw [if_pos h3, if_neg h4, decide_eq_false (show ¬ (1 ≤ d ∧ d ≤ 3) by omega)]
          simp
      · rw [if_neg h3, decide_eq_false (show ¬ (1 ≤ d ∧ d ≤ 3) by omega)]
        simp
    · rw [if_pos h1, if_neg h2, decide_eq_false h2]
      simp
  · rw [if_neg h1, decide_eq_false h1]
    simp
theorem in_tells (a : Int) : tarrylaw15_in.f a = some (decide (1 ≤ a ∧ a ≤ 1099511627776)) := by
  unfold tarrylaw15_in.f
  split <;> simp <;> omega
theorem lmay_tells (a : Int) (b : Bool) (c d e : Int) (f : Bool) : tarrylaw15_may.f a b c d e f = some (mayB ⟨a, b, c, d, e, f⟩) := by
  unfold tarrylaw15_may.f mayB
  simp only [in_tells, Option.bind_some, decide_eq_true_eq]
  cases f <;> cases b <;> simp <;> grind
theorem right_loop (l : List S25) (last : Int) (hl : l.length ≤ 9223372036854775807) (d : Nat) : ∀ (k i : Nat), i ≤ l.length → l.length - i = d → d < k →
    net_Right.l1 last l k (i : Int) = some ((l.drop i).all (okB last) && decide (l.length ≤ 64 ∧ 0 ≤ last ∧ last ≤ 1099511627776)) := by
  induction d with
  | zero =>
    intro k i h1 hd hk
    obtain ⟨k, rfl⟩ : ∃ m, k = m + 1 := ⟨k - 1, by omega⟩
    have hi : i = l.length := by omega
    subst hi
    simp only [net_Right.l1]
    rw [if_neg (by omega), List.drop_length]
    simp only [List.all_nil, Bool.true_and]
    by_cases a1 : (l.length : Int) ≤ 64
    · rw [if_pos a1]
      by_cases a2 : last ≥ 0
      · rw [if_pos a2]
        congr 1
        apply decide_eq_decide.2
        omega
      · rw [if_neg a2, decide_eq_false (by omega)]
    · rw [if_neg a1, decide_eq_false (by omega)]
  | succ d ih =>
    intro k i h1 hd hk
    obtain ⟨k, rfl⟩ : ∃ m, k = m + 1 := ⟨k - 1, by omega⟩
    have hi : i < l.length := by omega
    have hw : wrap64 ((i : Int) + 1) = ((i + 1 : Nat) : Int) := by rw [wrap64_id (by omega) (by omega)]; omega
    simp only [net_Right.l1]
    rw [if_pos (by omega), if_pos (by omega), Int.toNat_natCast, List.getElem?_eq_getElem hi, Option.bind_some, may_tells, hw, ih k (i + 1) (by omega) (by omega) (by omega)]
    rw [List.drop_eq_getElem_cons hi, List.all_cons]
    simp only [Option.bind_some, okB]
    generalize l[i] = x
    by_cases b1 : mayB x = true
    · rw [b1, if_pos rfl]
      by_cases b2 : x.f0 < 1
      · rw [if_pos b2, decide_eq_false (show ¬ (1 ≤ x.f0 ∧ x.f0 ≤ last) by omega)]
        simp
      · rw [if_neg b2]
        by_cases b3 : x.f0 > last
        · rw [if_pos b3, decide_eq_false (show ¬ (1 ≤ x.f0 ∧ x.f0 ≤ last) by omega)]
          simp
        · rw [if_neg b3, decide_eq_true (show 1 ≤ x.f0 ∧ x.f0 ≤ last by omega)]
          simp
    · rw [if_neg b1]
      replace b1 := Bool.eq_false_iff.mpr b1
      rw [b1]
      simp
theorem right_tells (k : Nat) (l : List S25) (last : Int) (hl : l.length ≤ 9223372036854775807) (hk : l.length < k) : net_Right.f k l last = some (rightB l last) := by
  unfold net_Right.f rightB
  have := right_loop l last hl l.length k 0 (by omega) (by omega) hk
  rw [List.drop_zero] at this
  exact this
theorem lright_loop (l : List S25) (last : Int) (hl : l.length ≤ 9223372036854775807) (d : Nat) : ∀ (k i : Nat), i ≤ l.length → l.length - i = d → d < k →
    tarrylaw15_right.l1 last l k (i : Int) = some ((l.drop i).all (okB last) && decide (l.length ≤ 64 ∧ 0 ≤ last ∧ last ≤ 1099511627776)) := by
  induction d with
  | zero =>
    intro k i h1 hd hk
    obtain ⟨k, rfl⟩ : ∃ m, k = m + 1 := ⟨k - 1, by omega⟩
    have hi : i = l.length := by omega
    subst hi
    simp only [tarrylaw15_right.l1, in_tells]
    rw [if_neg (by omega), List.drop_length]
    simp only [List.all_nil, Bool.true_and]
    by_cases a1 : (l.length : Int) ≤ 64
    · rw [if_pos a1]
      by_cases a2 : last = 0
      · rw [if_pos a2, decide_eq_true (by omega)]
      · rw [if_neg a2]
        simp only [Option.bind_some]
        congr 1
        apply decide_eq_decide.2
        omega
    · rw [if_neg a1, decide_eq_false (by omega)]
  | succ d ih =>
    intro k i h1 hd hk
    obtain ⟨k, rfl⟩ : ∃ m, k = m + 1 := ⟨k - 1, by omega⟩
    have hi : i < l.length := by omega
    have hw : wrap64 ((i : Int) + 1) = ((i + 1 : Nat) : Int) := by rw [wrap64_id (by omega) (by omega)]; omega
    simp only [tarrylaw15_right.l1]
    rw [if_pos (by omega), if_pos (by omega), Int.toNat_natCast, List.getElem?_eq_getElem hi, Option.bind_some, lmay_tells, hw, ih k (i + 1) (by omega) (by omega) (by omega)]
    rw [List.drop_eq_getElem_cons hi, List.all_cons]
    simp only [Option.bind_some, okB]
    generalize l[i] = x
    by_cases b1 : mayB x = true
    · rw [b1, if_pos rfl]
      by_cases b2 : x.f0 < 1
      · rw [if_pos b2, decide_eq_false (show ¬ (1 ≤ x.f0 ∧ x.f0 ≤ last) by omega)]
        simp
      · rw [if_neg b2]
        by_cases b3 : x.f0 > last
        · rw [if_pos b3, decide_eq_false (show ¬ (1 ≤ x.f0 ∧ x.f0 ≤ last) by omega)]
          simp
        · rw [if_neg b3, decide_eq_true (show 1 ≤ x.f0 ∧ x.f0 ≤ last by omega)]
          simp
    · rw [if_neg b1]
      replace b1 := Bool.eq_false_iff.mpr b1
      rw [b1]
      simp
theorem lright_tells (k : Nat) (l : List S25) (last : Int) (hl : l.length ≤ 9223372036854775807) (hk : l.length < k) : tarrylaw15_right.f k l last = some (rightB l last) := by
  unfold tarrylaw15_right.f rightB
  have := lright_loop l last hl l.length k 0 (by omega) (by omega) hk
  rw [List.drop_zero] at this
  exact this
theorem right_few {l : List S25} {last : Int} (h : rightB l last = true) : l.length ≤ 64 ∧ 0 ≤ last ∧ last ≤ 1099511627776 := by
  unfold rightB at h
  simp only [Bool.and_eq_true, decide_eq_true_eq] at h
  exact h.2
theorem behind_tells (l m : List S25) (h : l.length + m.length ≤ 1000000) : net_behind.f l m = some (l ++ m) := by
  unfold net_behind.f
  rw [if_pos (by omega)]
theorem post_tells (k : Nat) (l : List S25) (last a : Int) (b : Bool) (c d e : Int) (f : Bool) (hl : l.length ≤ 9223372036854775807) (hk : l.length < k) :
    net_Post.f k l last a b c d e f = some (if rightB l last = true ∧ mayB ⟨a, b, c, d, e, f⟩ = true then (if l.length = 64 ∨ last = 1099511627776 then ([], 0, 0, 7) else (l ++ [⟨last + 1, b, c, d, e, f⟩], last + 1, last + 1, 0)) else ([], 0, 0, 1)) := by
  simp only [net_Post.f, right_tells _ l last hl hk, may_tells, Option.bind_some]
  by_cases h1 : rightB l last = true
  · by_cases h2 : mayB ⟨a, b, c, d, e, f⟩ = true
    · have hf := right_few h1
      rw [if_pos h1, if_pos h2, if_pos (show _ ∧ _ from ⟨h1, h2⟩)]
      by_cases h3 : l.length = 64
      · rw [if_pos (by omega), if_pos (.inl h3)]
      · rw [if_neg (by omega)]
        by_cases h4 : last = 1099511627776
        · rw [if_pos h4, if_pos (.inr h4)]
        · rw [if_neg h4, if_neg (by omega), behind_tells _ _ (by simp only [List.length_singleton]; omega), wrap64_id (by omega) (by omega)]
          rfl
    · rw [if_pos h1, if_neg h2, if_neg (fun h => h2 h.2)]
  · rw [if_neg h1, if_neg (fun h => h1 h.1)]
theorem take_bad (k : Nat) (l : List S25) (last pl : Int) (hl : l.length ≤ 9223372036854775807) (hk : l.length < k) (h1 : ¬ rightB l last = true) : net_Take.f k l last pl = some ([], 0, 0, false, 0, 0, 0, false, 1) := by
  simp only [net_Take.f, right_tells _ l last hl hk, Option.bind_some]
  rw [if_neg h1]
theorem take_none (k : Nat) (l : List S25) (last pl : Int) (hl : l.length ≤ 9223372036854775807) (hk : l.length < k) (h1 : rightB l last = true) (h2 : pl < 0 ∨ pl ≥ (l.length : Int)) : net_Take.f k l last pl = some ([], 0, 0, false, 0, 0, 0, false, 8) := by
  simp only [net_Take.f, right_tells _ l last hl hk, Option.bind_some]
  rw [if_pos h1]
  by_cases h3 : pl < 0
  · rw [if_pos h3]
  · rw [if_neg h3, if_pos (by omega)]
theorem take_tells (k : Nat) (l : List S25) (last pl : Int) (x : S25) (hl : l.length ≤ 9223372036854775807) (hk : l.length < k) (h1 : rightB l last = true) (h2 : 0 ≤ pl) (h3 : pl < (l.length : Int)) (hx : l[pl.toNat]? = some x) :
    net_Take.f k l last pl = some (l.take pl.toNat ++ l.drop (pl.toNat + 1), last, x.f0, x.f1, x.f2, x.f3, x.f4, x.f5, 0) := by
  have hf := right_few h1
  simp only [net_Take.f, right_tells _ l last hl hk, Option.bind_some]
  have hw : wrap64 (pl + 1) = pl + 1 := wrap64_id (by omega) (by omega)
  rw [if_pos h1, if_neg (by omega), if_neg (by omega), if_pos h2, hx, Option.bind_some, hw, if_pos (by omega), if_pos (by omega), if_pos (by omega), List.take_length, List.drop_zero,
    behind_tells _ _ (by simp only [List.length_take, List.length_drop]; omega), show (pl + 1).toNat = pl.toNat + 1 by omega]
  rfl
theorem alive_tells (k : Nat) (hk : 2 ≤ k) : tarrylaw15_alive.f k = some true := by
  have h1 := post_tells k [] 0 0 false 5 1 7 false (by decide) (by simp; omega)
  rw [if_pos (by decide), if_neg (by decide)] at h1
  have h2 := take_tells k [⟨1, false, 5, 1, 7, false⟩] 1 0 ⟨1, false, 5, 1, 7, false⟩ (by decide) (by simp; omega) (by decide) (by decide) (by decide) rfl
  rw [tarrylaw15_alive.f, h1]
  simp only [Option.bind_some, List.nil_append, Int.zero_add]
  rw [h2]
  rfl
theorem same_tells (x y : S25) : (((x.f0 == y.f0) && ((x.f1 == y.f1) && ((x.f2 == y.f2) && ((x.f3 == y.f3) && ((x.f4 == y.f4) && (x.f5 == y.f5))))))) = decide (x = y) := by
  obtain ⟨a0, a1, a2, a3, a4, a5⟩ := x
  obtain ⟨b0, b1, b2, b3, b4, b5⟩ := y
  rw [Bool.eq_iff_iff]
  simp
theorem like_loop (l m : List S25) (hlm : l.length = m.length) (hl : l.length ≤ 9223372036854775807) (d : Nat) : ∀ (k i : Nat), i ≤ l.length → l.length - i = d → d < k →
    tarrylaw15_like.l1 l m k (i : Int) = some (decide (l.drop i = m.drop i)) := by
  induction d with
  | zero =>
    intro k i h1 hd hk
    obtain ⟨k, rfl⟩ : ∃ m, k = m + 1 := ⟨k - 1, by omega⟩
    simp only [tarrylaw15_like.l1]
    rw [if_neg (by omega), List.drop_eq_nil_of_le (by omega), List.drop_eq_nil_of_le (by omega)]
    simp
  | succ d ih =>
    intro k i h1 hd hk
    obtain ⟨k, rfl⟩ : ∃ m, k = m + 1 := ⟨k - 1, by omega⟩
    have hi : i < l.length := by omega
    have hi2 : i < m.length := by omega
    have hw : wrap64 ((i : Int) + 1) = ((i + 1 : Nat) : Int) := by rw [wrap64_id (by omega) (by omega)]; omega
    simp only [tarrylaw15_like.l1]
    rw [if_pos (by omega), if_pos (by omega), Int.toNat_natCast, List.getElem?_eq_getElem hi, Option.bind_some, List.getElem?_eq_getElem hi2, Option.bind_some, same_tells, hw, ih k (i + 1) (by omega) (by omega) (by omega), List.drop_eq_getElem_cons hi, List.drop_eq_getElem_cons hi2]
    generalize l[i] = x
    generalize m[i] = y
    by_cases hxy : x = y
    · subst hxy
      simp
    · simp [hxy]
theorem like_tells (k : Nat) (l m : List S25) (a b : Int) (hl : l.length ≤ 9223372036854775807) (hk : l.length < k) : tarrylaw15_like.f k l a m b = some (decide (l = m ∧ a = b)) := by
  unfold tarrylaw15_like.f
  by_cases h1 : (l.length : Int) = (m.length : Int)
  · rw [if_pos h1]
    by_cases h2 : a = b
    · subst h2
      have := like_loop l m (by omega) hl l.length k 0 (by omega) (by omega) (by omega)
      simp only [List.drop_zero, Int.natCast_zero] at this
      rw [if_pos rfl, this]
      simp
    · rw [if_neg h2]
      simp [h2]
  · rw [if_neg h1]
    have : ¬ l = m := fun h => h1 (by rw [h])
    simp [this]
theorem few_tells (l : List S25) (last : Int) : tarrylaw15_few.f l last = some (l.take 66, last) := by
  unfold tarrylaw15_few.f mn
  have h : (if (66 : Int) < (l.length : Int) then (66 : Int) else (l.length : Int)) = ((min l.length 66 : Nat) : Int) := by split <;> omega
  rw [h, if_pos (by omega), if_pos (by omega), Int.toNat_natCast]
  congr 2
  rw [List.drop_zero, Nat.min_comm, ← List.take_take, List.take_length]
theorem twice_err (k : Nat) (l : List S25) (last pl e : Int) (he : e ≠ 0) {b : List S25} {t1 t2 : Int} {t3 : Bool} {t4 t5 t6 : Int} {t7 : Bool} (h : net_Take.f k l last pl = some (b, t1, t2, t3, t4, t5, t6, t7, e)) : net_Twice.f k l last pl = some ([], 0, e) ∧ net_Last.f k l last pl = some ([], 0, e) := by
  unfold net_Twice.f net_Last.f
  rw [h]
  simp only [Option.bind_some]
  rw [if_neg he, if_neg he]
  exact ⟨rfl, rfl⟩
theorem behind_err (k : Nat) (l : List S25) (last pl e : Int) (he : e ≠ 0) (hk : 66 < k) : tarrylaw15_NetGoes.j81 k pl l [] [] [] last 0 0 false 0 0 0 false e 0 e 0 e e = some true := by
  unfold tarrylaw15_NetGoes.j81
  simp only [like_tells k [] _ 0 _ (by decide) (show 0 < k by omega), Option.bind_some]
  rw [if_neg he]
  simp
theorem second (k : Nat) (l : List S25) (last pl : Int) (hl : l.length ≤ 66) (hk : 100 < k) (hp : -9223372036854775808 ≤ pl ∧ pl ≤ 9223372036854775807) :
    ∃ b t1 t2 t3 t4 t5 t6 t7 t8 c u1 u2 d w1 w2, net_Take.f k l last pl = some (b, t1, t2, t3, t4, t5, t6, t7, t8) ∧ net_Twice.f k l last pl = some (c, u1, u2) ∧ net_Last.f k l last pl = some (d, w1, w2) ∧ tarrylaw15_NetGoes.j77 k pl l b c d last t1 t2 t3 t4 t5 t6 t7 t8 u1 u2 w1 w2 = some true := by
  have hl9 : l.length ≤ 9223372036854775807 := by omega
  have hlk : l.length < k := by omega
  unfold tarrylaw15_NetGoes.j77
  simp only [lright_tells k l last hl9 hlk, Option.bind_some]
  by_cases h1 : rightB l last = true
  · by_cases h2 : pl < 0 ∨ pl ≥ (l.length : Int)
    · have ht := take_none k l last pl hl9 hlk h1 h2
      obtain ⟨ha, hb⟩ := twice_err k l last pl 8 (by decide) ht
      refine ⟨_, _, _, _, _, _, _, _, _, _, _, _, _, _, _, ht, ha, hb, ?_⟩
      rw [if_pos h1]
      by_cases h3 : pl < 0
      · rw [if_pos h3, behind_err k l last pl 8 (by decide) (by omega)]
      · rw [if_neg h3, if_pos (by omega), behind_err k l last pl 8 (by decide) (by omega)]
    · obtain ⟨x, hx⟩ : ∃ x, l[pl.toNat]? = some x := ⟨_, List.getElem?_eq_getElem (by omega)⟩
      have ht := take_tells k l last pl x hl9 hlk h1 (by omega) (by omega) hx
      have hf := right_few h1
      have hw : wrap64 (pl + 1) = pl + 1 := wrap64_id (by omega) (by omega)
      have hn : (pl + 1).toNat = pl.toNat + 1 := by omega
      have e1 : (l.take pl.toNat ++ l.drop (pl.toNat + 1)).length ≤ 66 := by simp only [List.length_append, List.length_take, List.length_drop]; omega
      have hla : net_Last.f k l last pl = some (l.take pl.toNat ++ l.drop (pl.toNat + 1) ++ [x], last, 0) := by
        unfold net_Last.f
        rw [ht]
        simp only [Option.bind_some]
        rw [if_pos trivial, behind_tells _ _ (by simp only [List.length_singleton]; omega)]
        rfl
      have goal : ∀ c u1 u2, (if (l.length : Int) = 64 then (if u2 = (7 : Int) then ((tarrylaw15_like.f k c u1 [] 0).bind fun t => (some t)) else none) else (if u2 = 0 then ((tarrylaw15_like.f k c u1 (l ++ ([x] : List S25)) last).bind fun t => (some t)) else none)) = some true →
          tarrylaw15_NetGoes.j81 k pl l (l.take pl.toNat ++ l.drop (pl.toNat + 1)) c (l.take pl.toNat ++ l.drop (pl.toNat + 1) ++ [x]) last last x.f0 x.f1 x.f2 x.f3 x.f4 x.f5 0 u1 u2 last 0 0 = some true := by
        intro c u1 u2 hg
        unfold tarrylaw15_NetGoes.j81
        simp only [hw, hn, List.take_length, List.drop_zero, List.nil_append]
        rw [if_pos trivial, if_pos (by omega), hx, Option.bind_some, if_pos (by omega), if_pos (by simp only [List.length_take, List.length_nil]; omega), if_pos (by omega), if_pos (by omega), if_pos (by simp only [List.length_take, List.length_drop]; omega), if_pos (by simp only [List.length_singleton]; omega), if_pos (by simp only [List.length_nil]; omega), if_pos (by simp only [List.length_singleton]; omega), if_pos trivial, same_tells, if_pos (by simp)]
        rw [like_tells k _ _ _ _ (by omega) (by omega), Option.bind_some, if_pos (by simp), if_pos trivial, like_tells k _ _ _ _ (by simp only [List.length_append, List.length_singleton] at e1 ⊢; omega) (by simp only [List.length_append, List.length_singleton] at e1 ⊢; omega), Option.bind_some, if_pos (by simp)]
        exact hg
      by_cases h6 : l.length = 64
      · refine ⟨_, _, _, _, _, _, _, _, _, [], 0, 7, _, _, _, ht, ?_, hla, ?_⟩
        · unfold net_Twice.f
          rw [ht]
          simp only [Option.bind_some]
          rw [if_pos trivial, if_pos (by omega)]
        · rw [if_pos h1, if_neg (by omega), if_neg (by omega)]
          refine goal _ _ _ ?_
          rw [if_pos (by omega), if_pos rfl, like_tells k _ _ _ _ (by simp) (by simp; omega)]
          simp
      · refine ⟨_, _, _, _, _, _, _, _, _, l ++ [x], last, 0, _, _, _, ht, ?_, hla, ?_⟩
        · unfold net_Twice.f
          rw [ht]
          simp only [Option.bind_some]
          rw [if_pos trivial, if_neg (by omega), behind_tells _ _ (by simp only [List.length_singleton]; omega)]
          rfl
        · rw [if_pos h1, if_neg (by omega), if_neg (by omega)]
          refine goal _ _ _ ?_
          rw [if_neg (by omega), if_pos rfl, like_tells k _ _ _ _ (by simp only [List.length_append, List.length_singleton]; omega) (by simp only [List.length_append, List.length_singleton]; omega)]
          simp
  · have ht := take_bad k l last pl hl9 hlk h1
    obtain ⟨ha, hb⟩ := twice_err k l last pl 1 (by decide) ht
    refine ⟨_, _, _, _, _, _, _, _, _, _, _, _, _, _, _, ht, ha, hb, ?_⟩
    rw [if_neg h1, behind_err k l last pl 1 (by decide) (by omega)]
theorem first_err (k : Nat) (b : Bool) (c d e : Int) (f : Bool) (pl : Int) (l : List S25) (x : Int) (hx : x ≠ 0) (hl : l.length ≤ 66) (hk : 100 < k) {r545 r628 r690 : List S25} {last t546 t547 : Int} {t548 : Bool} {t549 t550 t551 : Int} {t552 : Bool} {t553 t629 t630 t691 t692 : Int}
    (h : tarrylaw15_NetGoes.j77 k pl l r545 r628 r690 last t546 t547 t548 t549 t550 t551 t552 t553 t629 t630 t691 t692 = some true) :
    tarrylaw15_NetGoes.j55 k b c d e f pl l [] r545 r628 r690 last 0 0 x t546 t547 t548 t549 t550 t551 t552 t553 t629 t630 t691 t692 x = some true := by
  unfold tarrylaw15_NetGoes.j55
  rw [if_pos (by simp only [List.length_nil]; omega), if_pos (by simp only [List.nil_append, List.length_singleton]; omega), if_pos rfl, if_neg hx, if_neg hx, if_pos rfl, like_tells k [] _ 0 _ (by decide) (show 0 < k by omega)]
  simp only [Option.bind_some]
  rw [if_pos (by simp)]
  exact h
theorem NetGoes : tarrylaw15_NetGoes.Pure := by
  intro l0 last0 a b c d e5 f pl _ hlast ha hc hd he hpl
  refine ⟨200, ?_⟩
  replace hpl := wf64 hpl
  unfold tarrylaw15_NetGoes.f
  rw [few_tells]
  simp only [Option.bind_some]
  obtain ⟨l, hl, e⟩ : ∃ l : List S25, l.length ≤ 66 ∧ l0.take 66 = l := ⟨_, by rw [List.length_take]; omega, rfl⟩
  rw [e]
  have hl9 : l.length ≤ 9223372036854775807 := by omega
  have hlk : l.length < 200 := by omega
  obtain ⟨r545, t546, t547, t548, t549, t550, t551, t552, t553, r628, t629, t630, r690, t691, t692, h1, h2, h3, h4⟩ := second 200 l last0 pl hl (by decide) hpl
  rw [post_tells 200 l last0 _ _ _ _ _ _ hl9 hlk]
  simp only [Option.bind_some, h1, h2, h3, right_tells 200 l last0 hl9 hlk, lright_tells 200 l last0 hl9 hlk, alive_tells 200 (by decide), lmay_tells, if_true]
  by_cases h5 : rightB l last0 = true
  · have hf := right_few h5
    rw [if_pos h5]
    by_cases h6 : mayB ⟨a, b, c, d, e5, f⟩ = true
    · rw [if_pos h6, if_pos (show _ ∧ _ from ⟨h5, h6⟩)]
      by_cases h7 : l.length = 64
      · rw [if_pos (by omega), if_pos (.inl h7)]
        exact first_err _ _ _ _ _ _ _ _ _ (by decide) hl (by decide) h4
      · rw [if_neg (show ¬ (l.length : Int) = 64 by omega)]
        by_cases h8 : last0 = 1099511627776
        · rw [if_pos h8, if_pos (.inr h8)]
          exact first_err _ _ _ _ _ _ _ _ _ (by decide) hl (by decide) h4
        · rw [if_neg h8, if_neg (by omega)]
          have hw : wrap64 (last0 + 1) = last0 + 1 := wrap64_id (by omega) (by omega)
          unfold tarrylaw15_NetGoes.j55
          rw [hw]
          rw [if_pos (by simp only [List.length_nil]; omega), if_pos (by simp only [List.nil_append, List.length_singleton]; omega), if_pos rfl, if_pos rfl, if_pos rfl, like_tells 200 _ _ _ _ (by simp only [List.length_append, List.length_singleton]; omega) (by simp only [List.length_append, List.length_singleton]; omega)]
          simp only [Option.bind_some, List.nil_append]
          rw [if_pos (by simp), if_pos trivial]
          exact h4
    · rw [if_neg h6, if_neg (fun h => h6 h.2)]
      exact first_err _ _ _ _ _ _ _ _ _ (by decide) hl (by decide) h4
  · rw [if_neg h5, if_neg (fun h => h5 h.1)]
    exact first_err _ _ _ _ _ _ _ _ _ (by decide) hl (by decide) h4
end Go.Proofs.Ytjghhdnecilcfaa.Pure
