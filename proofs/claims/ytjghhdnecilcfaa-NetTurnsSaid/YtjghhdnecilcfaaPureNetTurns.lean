/- NetTurns: parcels that are put last, each once, stand as they did; one that is posted is last; one that is there twice is taken as it was both times: the statement's Go function answers true at every input; no further condition. -/
import Derived.Test.YtjghhdnecilcfaaPNetTurnsx11
namespace Go.Proofs.Ytjghhdnecilcfaa.Pure
open Go.RowKit Go.Proofs.Ytjghhdnecilcfaa.PNetTurns Go.Proofs.YtjghhdnecilcfaaW.PrintWords Go.Proofs.YtjghhdnecilcfaaW.PrintLast Go.Proofs.YtjghhdnecilcfaaW.PrintMore
set_option linter.unusedSimpArgs false
theorem wf64 {a : Int} (h : (Lit.int .i64 a).wf = true) : -9223372036854775808 ≤ a ∧ a ≤ 9223372036854775807 := by
  simpa [Lit.wf, IntKind.min, IntKind.max, IntKind.signed, IntKind.bits] using h
theorem wrap64_id {a : Int} (h : -9223372036854775808 ≤ a) (h' : a ≤ 9223372036854775807) : wrap64 a = a := by
  unfold wrap64
  omega
instance : DecidableEq S26 := fun x y => decidable_of_iff (x.f0 = y.f0 ∧ x.f1 = y.f1 ∧ x.f2 = y.f2 ∧ x.f3 = y.f3 ∧ x.f4 = y.f4 ∧ x.f5 = y.f5) (by cases x; cases y; simp)
/-- Which parcel may be. -/
def mayB (x : S26) : Bool := decide (1 ≤ x.f2 ∧ x.f2 ≤ 1099511627776) && (decide (1 ≤ x.f4 ∧ x.f4 ≤ 1099511627776) && (decide (1 ≤ x.f3 ∧ x.f3 ≤ 3) && (!x.f5 || (x.f1 && x.f3 == 3))))
def okB (last : Int) (x : S26) : Bool := mayB x && decide (1 ≤ x.f0 ∧ x.f0 ≤ last)
def rightB (l : List S26) (last : Int) : Bool := l.all (okB last) && decide (l.length ≤ 64 ∧ 0 ≤ last ∧ last ≤ 1099511627776)
theorem number_tells (a : Int) : net_number.f a = some (decide (1 ≤ a ∧ a ≤ 1099511627776)) := by
  unfold net_number.f
  split <;> simp <;> omega
theorem may_tells (x : S26) : net_may.f x.f0 x.f1 x.f2 x.f3 x.f4 x.f5 = some (mayB x) := by
  obtain ⟨a, b, c, d, e, f⟩ := x
  unfold net_may.f mayB
  simp only [number_tells, Option.bind_some, decide_eq_true_eq]
  by_cases h1 : 1 ≤ c ∧ c ≤ 1099511627776
  · by_cases h2 : 1 ≤ e ∧ e ≤ 1099511627776
    · rw [if_pos h1, if_pos h2, decide_eq_true h1, decide_eq_true h2]
      by_cases h3 : d ≥ 1
      · by_cases h4 : d ≤ 3
        · rw [if_pos h3, if_pos h4, decide_eq_true (show 1 ≤ d ∧ d ≤ 3 from ⟨h3, h4⟩)]
          cases f <;> cases b <;> simp
        · rw [if_pos h3, if_neg h4, decide_eq_false (show ¬ (1 ≤ d ∧ d ≤ 3) by omega)]
          simp
      · rw [if_neg h3, decide_eq_false (show ¬ (1 ≤ d ∧ d ≤ 3) by omega)]
        simp
    · rw [if_pos h1, if_neg h2, decide_eq_false h2]
      simp
  · rw [if_neg h1, decide_eq_false h1]
    simp
theorem rd_at (l : List S26) (i : Nat) (h : i < l.length) : rd_T26 l (i : Int) = l[i] := by
  unfold rd_T26
  rw [Int.toNat_natCast, List.getD_eq_getElem?_getD, List.getElem?_eq_getElem h, Option.getD_some]
theorem right_loop (l : List S26) (last : Int) (hl : l.length ≤ 9223372036854775807) (d : Nat) : ∀ (k i : Nat), i ≤ l.length → l.length - i = d → d < k →
    net_Right.l0 k l (l.length : Int) (i : Int) l last = some ((l.drop i).all (okB last) && decide (l.length ≤ 64 ∧ 0 ≤ last ∧ last ≤ 1099511627776)) := by
  induction d with
  | zero =>
    intro k i h1 hd hk
    obtain ⟨k, rfl⟩ : ∃ m, k = m + 1 := ⟨k - 1, by omega⟩
    have hi : i = l.length := by omega
    subst hi
    simp only [net_Right.l0]
    rw [if_neg (by omega), List.drop_length]
    simp only [List.all_nil, Bool.true_and]
    by_cases a1 : (l.length : Int) ≤ 64
    · rw [if_pos a1]
      by_cases a2 : last ≥ 0
      · rw [if_pos a2]
        congr 1
        apply decide_eq_decide.2
        omega
      · rw [if_neg a2, decide_eq_false (by omega)]
    · rw [if_neg a1, decide_eq_false (by omega)]
  | succ d ih =>
    intro k i h1 hd hk
    obtain ⟨k, rfl⟩ : ∃ m, k = m + 1 := ⟨k - 1, by omega⟩
    have hi : i < l.length := by omega
    have hw : wrap64 ((i : Int) + 1) = ((i + 1 : Nat) : Int) := by rw [wrap64_id (by omega) (by omega)]; omega
    simp only [net_Right.l0]
    rw [if_pos (by omega), if_pos (by omega), if_pos (by omega), rd_at l i hi, may_tells, hw, ih k (i + 1) (by omega) (by omega) (by omega)]
    rw [List.drop_eq_getElem_cons hi, List.all_cons]
    simp only [Option.bind_some, okB]
    generalize l[i] = x
    by_cases b1 : mayB x = true
    · rw [b1, if_pos rfl]
      by_cases b2 : x.f0 < 1
      · rw [if_pos b2, decide_eq_false (show ¬ (1 ≤ x.f0 ∧ x.f0 ≤ last) by omega)]
        simp
      · rw [if_neg b2]
        by_cases b3 : x.f0 > last
        · rw [if_pos b3, decide_eq_false (show ¬ (1 ≤ x.f0 ∧ x.f0 ≤ last) by omega)]
          simp
        · rw [if_neg b3, decide_eq_true (show 1 ≤ x.f0 ∧ x.f0 ≤ last by omega)]
          simp
    · rw [if_neg b1]
      replace b1 := Bool.eq_false_iff.mpr b1
      rw [b1]
      simp
theorem right_tells (k : Nat) (l : List S26) (last : Int) (hl : l.length ≤ 9223372036854775807) (hk : l.length < k) : net_Right.f k l last = some (rightB l last) := by
  unfold net_Right.f rightB
  have := right_loop l last hl l.length k 0 (by omega) (by omega) hk
  rw [List.drop_zero] at this
  exact this
theorem right_few {l : List S26} {last : Int} (h : rightB l last = true) : l.length ≤ 64 ∧ 0 ≤ last ∧ last ≤ 1099511627776 := by
  unfold rightB at h
  simp only [Bool.and_eq_true, decide_eq_true_eq] at h
  exact h.2
theorem behind_tells (l m : List S26) (h : l.length + m.length ≤ 1000000) : net_behind.f l m = some (l ++ m) := by
  unfold net_behind.f
  rw [if_pos (by omega)]
theorem post_tells (k : Nat) (l : List S26) (last : Int) (p : S26) (hl : l.length ≤ 9223372036854775807) (hk : l.length + 2 ≤ k) :
    net_Post.f k l last p.f0 p.f1 p.f2 p.f3 p.f4 p.f5 = some (if rightB l last = true ∧ mayB p = true then (if l.length = 64 ∨ last = 1099511627776 then ([], 0, 0, 7) else (l ++ [⟨last + 1, p.f1, p.f2, p.f3, p.f4, p.f5⟩], last + 1, last + 1, 0)) else ([], 0, 0, 1)) := by
  obtain ⟨k, rfl⟩ : ∃ m, k = m + 2 := ⟨k - 2, by omega⟩
  simp only [net_Post.f, right_tells _ l last hl (show l.length < k + 2 by omega), may_tells, Option.bind_some, net_Post.j0, net_Post.j1]
  by_cases h1 : rightB l last = true
  · by_cases h2 : mayB p = true
    · have hf := right_few h1
      simp only [h1, h2, and_self, if_true, Bool.not_true, Bool.false_eq_true, if_false]
      by_cases h3 : l.length = 64
      · have h3' : (l.length : Int) = 64 := by omega
        rw [if_pos h3']
        simp [h3]
      · have h3' : ¬ (l.length : Int) = 64 := by omega
        rw [if_neg h3']
        by_cases h4 : last = 1099511627776
        · subst h4
          simp
        · rw [if_neg (show ¬ (l.length = 64 ∨ last = 1099511627776) by omega)]
          have h5 : (last == 1099511627776) = false := by simpa using h4
          simp only [h5, Bool.false_eq_true, if_false]
          rw [behind_tells _ _ (by simp only [List.length_singleton]; omega), wrap64_id (by omega) (by omega)]
          rfl
    · simp [h1, h2]
  · simp [h1]
theorem take_tells (k : Nat) (l : List S26) (last pl : Int) (hl : l.length ≤ 9223372036854775807) (hk : l.length + 2 ≤ k) :
    net_Take.f k l last pl = some (if rightB l last = true then (if pl < 0 ∨ pl ≥ (l.length : Int) then ([], 0, 0, false, 0, 0, 0, false, 8) else (l.take pl.toNat ++ l.drop (pl.toNat + 1), last, (rd_T26 l pl).f0, (rd_T26 l pl).f1, (rd_T26 l pl).f2, (rd_T26 l pl).f3, (rd_T26 l pl).f4, (rd_T26 l pl).f5, 0)) else ([], 0, 0, false, 0, 0, 0, false, 1)) := by
  obtain ⟨k, rfl⟩ : ∃ m, k = m + 2 := ⟨k - 2, by omega⟩
  simp only [net_Take.f, right_tells _ l last hl (show l.length < k + 2 by omega), Option.bind_some, net_Take.j0]
  by_cases h1 : rightB l last = true
  · have hf := right_few h1
    simp only [h1, if_true]
    by_cases h2 : pl < 0
    · simp only [h2, true_or, if_true]
    · rw [if_neg h2]
      by_cases h3 : pl ≥ (l.length : Int)
      · simp only [h3, or_true, if_true, decide_true]
      · have h4 : ¬ (decide (pl ≥ (l.length : Int)) = true) := by simpa using h3
        have hw : wrap64 (pl + 1) = pl + 1 := wrap64_id (by omega) (by omega)
        rw [if_neg h4, if_neg (show ¬ (pl < 0 ∨ pl ≥ (l.length : Int)) by omega), if_pos (by omega), if_pos (by omega), if_pos (by omega), hw, if_pos (by omega), if_pos (by omega)]
        rw [behind_tells _ _ (by simp only [List.length_take, List.length_drop]; omega), show (pl + 1).toNat = pl.toNat + 1 by omega]
        rfl
  · simp [h1]
theorem alive_tells (k : Nat) : tarrylaw15_alive.f (k + 4) = some true := by
  have h1 := post_tells (k + 4) [] 0 ⟨0, false, 5, 1, 7, false⟩ (by decide) (by simp)
  rw [if_pos (by decide), if_neg (by decide)] at h1
  have h2 := take_tells (k + 4) [⟨1, false, 5, 1, 7, false⟩] 1 0 (by decide) (by simp)
  rw [if_pos (by decide), if_neg (by decide)] at h2
  rw [tarrylaw15_alive.f]
  simp only at h1
  rw [h1]
  simp only [Option.bind_some, List.nil_append, Int.zero_add]
  rw [h2]
  rfl
theorem like_loop (l m : List S26) (a b : Int) (hlm : l.length = m.length) (hl : l.length ≤ 9223372036854775807) (d : Nat) : ∀ (k i : Nat), i ≤ l.length → l.length - i = d → d < k →
    tarrylaw15_like.l0 k (l.length : Int) (i : Int) l a m b = some (decide (l.drop i = m.drop i)) := by
  induction d with
  | zero =>
    intro k i h1 hd hk
    obtain ⟨k, rfl⟩ : ∃ m, k = m + 1 := ⟨k - 1, by omega⟩
    simp only [tarrylaw15_like.l0]
    rw [if_neg (by omega), List.drop_eq_nil_of_le (by omega), List.drop_eq_nil_of_le (by omega)]
    simp
  | succ d ih =>
    intro k i h1 hd hk
    obtain ⟨k, rfl⟩ : ∃ m, k = m + 1 := ⟨k - 1, by omega⟩
    have hi : i < l.length := by omega
    have hi2 : i < m.length := by omega
    have hw : wrap64 ((i : Int) + 1) = ((i + 1 : Nat) : Int) := by rw [wrap64_id (by omega) (by omega)]; omega
    simp only [tarrylaw15_like.l0]
    rw [if_pos (by omega), if_pos (by omega), if_pos (by omega), if_pos (by omega), rd_at l i hi, rd_at m i hi2, hw, ih k (i + 1) (by omega) (by omega) (by omega), List.drop_eq_getElem_cons hi, List.drop_eq_getElem_cons hi2]
    generalize l[i] = x
    generalize m[i] = y
    by_cases hxy : x = y
    · subst hxy
      simp
    · have hne : (!(x.f0 == y.f0) || (!(x.f1 == y.f1) || (!(x.f2 == y.f2) || (!(x.f3 == y.f3) || (!(x.f4 == y.f4) || (!(x.f5 == y.f5))))))) = true := by
        apply Decidable.byContradiction
        intro hc
        apply hxy
        obtain ⟨a0, a1, a2, a3, a4, a5⟩ := x
        obtain ⟨b0, b1, b2, b3, b4, b5⟩ := y
        simp at hc
        simp [hc]
      rw [if_pos hne]
      simp [hxy]
theorem like_tells (k : Nat) (l m : List S26) (a b : Int) (hl : l.length ≤ 9223372036854775807) (hk : l.length + 2 ≤ k) : tarrylaw15_like.f k l a m b = some (decide (l = m ∧ a = b)) := by
  obtain ⟨k, rfl⟩ : ∃ m, k = m + 1 := ⟨k - 1, by omega⟩
  unfold tarrylaw15_like.f
  by_cases h1 : (l.length : Int) = (m.length : Int)
  · rw [if_pos h1]
    simp only [tarrylaw15_like.j0]
    by_cases h2 : a = b
    · subst h2
      have := like_loop l m a a (by omega) hl l.length k 0 (by omega) (by omega) (by omega)
      simp only [List.drop_zero, Int.natCast_zero] at this
      simp [this]
    · have : (a != b) = true := by simpa using h2
      simp [this, h2]
  · rw [if_neg h1]
    simp only [tarrylaw15_like.j0]
    have : ¬ l = m := fun h => h1 (by rw [h])
    simp [this]
theorem few_tells (l : List S26) (last : Int) : tarrylaw15_few.f l last = some (l.take 66, last) := by
  unfold tarrylaw15_few.f mn
  have h : (if (66 : Int) < (l.length : Int) then (66 : Int) else (l.length : Int)) = ((min l.length 66 : Nat) : Int) := by split <;> omega
  rw [h, if_pos (by omega), if_pos (by omega), Int.toNat_natCast]
  congr 2
  rw [Nat.min_comm, ← List.take_take, List.take_length]
theorem twice_tells (k : Nat) (l : List S26) (last pl : Int) (hl : l.length ≤ 9223372036854775807) (hk : l.length + 2 ≤ k) :
    net_Twice.f k l last pl = some (if rightB l last = true then (if pl < 0 ∨ pl ≥ (l.length : Int) then ([], 0, 8) else if l.length = 64 then ([], 0, 7) else (l ++ [rd_T26 l pl], last, 0)) else ([], 0, 1)) := by
  rw [net_Twice.f, take_tells k l last pl hl hk]
  simp only [Option.bind_some]
  by_cases h1 : rightB l last = true
  · have hf := right_few h1
    simp only [h1, if_true]
    by_cases h2 : pl < 0 ∨ pl ≥ (l.length : Int)
    · simp [h2]
    · simp only [h2, if_false, if_true]
      by_cases h3 : l.length = 64
      · rw [if_pos (by omega), if_pos h3]
      · rw [if_neg (by omega), if_neg h3, behind_tells _ _ (by simp only [List.length_singleton]; omega)]
        rfl
  · simp [h1]
theorem last_tells (k : Nat) (l : List S26) (last pl : Int) (hl : l.length ≤ 9223372036854775807) (hk : l.length + 2 ≤ k) :
    net_Last.f k l last pl = some (if rightB l last = true then (if pl < 0 ∨ pl ≥ (l.length : Int) then ([], 0, 8) else (l.take pl.toNat ++ l.drop (pl.toNat + 1) ++ [rd_T26 l pl], last, 0)) else ([], 0, 1)) := by
  rw [net_Last.f, take_tells k l last pl hl hk]
  simp only [Option.bind_some]
  by_cases h1 : rightB l last = true
  · have hf := right_few h1
    simp only [h1, if_true]
    by_cases h2 : pl < 0 ∨ pl ≥ (l.length : Int)
    · simp [h2]
    · simp only [h2, if_false, if_true]
      rw [behind_tells _ _ (by simp only [List.length_append, List.length_take, List.length_drop, List.length_singleton]; omega)]
      rfl
  · simp [h1]
theorem turn_right (l : List S26) (last : Int) (i : Nat) : rightB (l.drop i ++ l.take i) last = rightB l last := by
  unfold rightB
  have h1 : (l.drop i ++ l.take i).length = l.length := by simp only [List.length_append, List.length_drop, List.length_take]; omega
  have h2 : (l.drop i ++ l.take i).all (okB last) = l.all (okB last) := by
    rw [List.all_append, Bool.and_comm, ← List.all_append, List.take_append_drop]
  rw [h1, h2]
theorem turn_next (l : List S26) (i : Nat) (h : i < l.length) : (l.drop i ++ l.take i).take (0 : Int).toNat ++ (l.drop i ++ l.take i).drop ((0 : Int).toNat + 1) ++ [rd_T26 (l.drop i ++ l.take i) 0] = l.drop (i + 1) ++ l.take (i + 1) := by
  have e : l.drop i ++ l.take i = l[i] :: (l.drop (i + 1) ++ l.take i) := by rw [List.drop_eq_getElem_cons h]; rfl
  rw [e, List.take_succ_eq_append_getElem h, ← List.append_assoc]
  rfl
theorem loop_turns (l : List S26) (last : Int) (p : S26) (hR : rightB l last = true) (d : Nat) : ∀ (k i : Nat), i ≤ l.length → l.length - i = d → l.length + d + 5 ≤ k →
    tarrylaw15_NetTurns.l0 k (l.length : Int) (i : Int) l last p.f0 p.f1 p.f2 p.f3 p.f4 p.f5 (l.drop i ++ l.take i) last = some true := by
  have hf := right_few hR
  induction d with
  | zero =>
    intro k i h1 hd hk
    obtain ⟨k, rfl⟩ : ∃ m, k = m + 5 := ⟨k - 5, by omega⟩
    have hi : i = l.length := by omega
    subst hi
    simp only [tarrylaw15_NetTurns.l0]
    rw [if_neg (by omega), List.drop_length, List.take_length, List.nil_append, like_tells (k + 4) l l last last (by omega) (by omega)]
    simp only [and_self, decide_true, Option.bind_some, if_true]
    rw [alive_tells k, post_tells (k + 4) l last p (by omega) (by omega)]
    simp only [Option.bind_some, if_true, hR, true_and]
    by_cases hp : mayB p = true
    · rw [if_pos hp]
      by_cases hfull : l.length = 64 ∨ last = 1099511627776
      · rw [if_pos hfull]
        simp
      · rw [if_neg hfull]
        simp only [if_true]
        obtain ⟨q, hq⟩ : ∃ q : S26, q = ⟨last + 1, p.f1, p.f2, p.f3, p.f4, p.f5⟩ := ⟨_, rfl⟩
        have hq0 : q.f0 = last + 1 := by rw [hq]
        have hq2 : q.f2 = p.f2 := by rw [hq]
        have hqm : mayB q = true := by rw [hq]; exact hp
        rw [← hq]
        have hokq : okB (last + 1) q = true := by unfold okB; rw [hqm, hq0]; simp; omega
        have hall : l.all (okB (last + 1)) = true := by
          have h2 : l.all (okB last) = true := by unfold rightB at hR; simp only [Bool.and_eq_true] at hR; exact hR.1
          rw [List.all_eq_true] at h2 ⊢
          intro x hx
          have h3 := h2 x hx
          unfold okB at h3 ⊢
          simp only [Bool.and_eq_true, decide_eq_true_eq] at h3 ⊢
          exact ⟨h3.1, h3.2.1, by omega⟩
        have hR1 : rightB (l ++ [q]) (last + 1) = true := by
          unfold rightB
          rw [List.all_append, hall]
          simp only [List.all_cons, List.all_nil, hokq, Bool.and_self, Bool.true_and, List.length_append, List.length_singleton, decide_eq_true_eq]
          omega
        have hlen : ((l ++ [q]).length : Int) = (l.length : Int) + 1 := by simp
        rw [twice_tells (k + 4) (l ++ [q]) (last + 1) (l.length : Int) (by simp <;> omega) (by simp <;> omega)]
        simp only [Option.bind_some, hR1, if_true]
        rw [if_neg (show ¬ ((l.length : Int) < 0 ∨ (l.length : Int) ≥ ((l ++ [q]).length : Int)) by omega)]
        have hat : rd_T26 (l ++ [q]) (l.length : Int) = q := by rw [rd_at _ _ (by simp)]; simp
        rw [hat]
        by_cases h63 : (l ++ [q]).length = 64
        · rw [if_pos h63]
          have : (l.length : Int) = 63 := by simp at h63; omega
          simp [this]
        · rw [if_neg h63]
          simp only [if_true]
          have hR2 : rightB (l ++ [q] ++ [q]) (last + 1) = true := by
            unfold rightB
            rw [List.all_append, List.all_append, hall]
            simp only [List.length_append, List.length_singleton] at h63
            simp only [List.all_cons, List.all_nil, hokq, Bool.and_self, Bool.true_and, List.length_append, List.length_singleton, decide_eq_true_eq]
            omega
          have hat2 : rd_T26 (l ++ [q] ++ [q]) (l.length : Int) = q := by rw [rd_at _ _ (by simp <;> omega)]; simp
          rw [take_tells (k + 4) (l ++ [q] ++ [q]) (last + 1) (l.length : Int) (by simp <;> omega) (by simp <;> omega)]
          rw [if_pos hR2, if_neg (by simp <;> omega), hat2]
          have hcut : (l ++ [q] ++ [q]).take ((l.length : Int)).toNat ++ (l ++ [q] ++ [q]).drop (((l.length : Int)).toNat + 1) = l ++ [q] := by
            rw [Int.toNat_natCast, List.append_assoc, List.take_left, List.drop_append]
            simp
          rw [hcut]
          simp only [Option.bind_some]
          rw [take_tells (k + 4) (l ++ [q]) (last + 1) (l.length : Int) (by simp <;> omega) (by simp <;> omega)]
          rw [if_pos hR1, if_neg (by omega), hat]
          have hw : wrap64 ((l.length : Int) + 1) = (l.length : Int) + 1 := wrap64_id (by omega) (by omega)
          simp [hq0, hq2, hw]
    · rw [if_neg hp]
      simp
  | succ d ih =>
    intro k i h1 hd hk
    obtain ⟨k, rfl⟩ : ∃ m, k = m + 1 := ⟨k - 1, by omega⟩
    have hi : i < l.length := by omega
    have hw : wrap64 ((i : Int) + 1) = ((i + 1 : Nat) : Int) := by rw [wrap64_id (by omega) (by omega)]; omega
    have hlen : (l.drop i ++ l.take i).length = l.length := by simp only [List.length_append, List.length_drop, List.length_take]; omega
    simp only [tarrylaw15_NetTurns.l0]
    rw [if_pos (by omega), last_tells k (l.drop i ++ l.take i) last 0 (by omega) (by omega), turn_right, if_pos hR, if_neg (by omega), turn_next l i hi, hw]
    simp only [Option.bind_some, if_true]
    exact ih k (i + 1) (by omega) (by omega) (by omega)
theorem NetTurns : tarrylaw15_NetTurns.Pure := by
  intro l last a b c d e f hl h0 h1 h2 h3 h4
  refine ⟨200, ?_⟩
  rw [tarrylaw15_NetTurns.f, few_tells]
  have hlen : (l.take 66).length ≤ 66 := by simp; omega
  simp only [Option.bind_some]
  rw [right_tells 200 (l.take 66) last (by omega) (by omega)]
  simp only [Option.bind_some]
  by_cases hR : rightB (l.take 66) last = true
  · rw [if_pos hR]
    have hf := right_few hR
    have := loop_turns (l.take 66) last ⟨a, b, c, d, e, f⟩ hR (l.take 66).length 200 0 (by omega) (by omega) (by omega)
    simpa using this
  · rw [if_neg hR, alive_tells 196]
    rfl
end Go.Proofs.Ytjghhdnecilcfaa.Pure
