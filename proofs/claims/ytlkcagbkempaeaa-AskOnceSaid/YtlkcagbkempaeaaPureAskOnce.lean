/- AskOnce: whatever row of acts is done with asking, the statement's Go function answers true; no further condition. -/
import Derived.Test.YtlkcagbkempaeaaPAskOncex3
namespace Go.Proofs.Ytlkcagbkempaeaa.Pure
open Go.RowKit Go.Proofs.Ytlkcagbkempaeaa.PAskOnce Go.Proofs.YtlkcagbkempaeaaW.PrintWords Go.Proofs.YtlkcagbkempaeaaW.PrintLast Go.Proofs.YtlkcagbkempaeaaW.PrintMore
set_option linter.unusedSimpArgs false
theorem wf64 {a : Int} (h : (Lit.int .i64 a).wf = true) : -9223372036854775808 ≤ a ∧ a ≤ 9223372036854775807 := by
  simpa [Lit.wf, IntKind.min, IntKind.max, IntKind.signed, IntKind.bits] using h
theorem wrap64_id {a : Int} (h : -9223372036854775808 ≤ a) (h' : a ≤ 9223372036854775807) : wrap64 a = a := by
  unfold wrap64
  omega
/-- Which asking may be. -/
def Rt (s u : Int) : Prop := (s = 0 ∧ u = 0) ∨ (1 ≤ s ∧ s ≤ 3 ∧ 0 ≤ u ∧ u ≤ 1099511627776)
instance (s u : Int) : Decidable (Rt s u) := by unfold Rt; exact inferInstance
theorem time_tells (a : Int) : ask_time.f a = some (decide (0 ≤ a ∧ a ≤ 1099511627776)) := by
  unfold ask_time.f
  split <;> simp <;> omega
theorem right_tells (s u : Int) : ask_Right.f s u = some (decide (Rt s u)) := by
  unfold ask_Right.f Rt
  simp only [time_tells, Option.bind_some, Bool.and_eq_true, beq_iff_eq]
  by_cases h0 : s = 0 ∧ u = 0
  · rw [if_pos h0]
    simp [h0]
  · rw [if_neg h0]
    by_cases h1 : s ≥ 1
    · rw [if_pos h1]
      by_cases h2 : s ≤ 3
      · rw [if_pos h2]
        congr 1
        apply decide_eq_decide.2
        omega
      · rw [if_neg h2]
        congr 1
        symm
        apply decide_eq_false
        omega
    · rw [if_neg h1]
      congr 1
      symm
      apply decide_eq_false
      omega
theorem begin_tells (k : Nat) (s u t : Int) : ask_Begin.f (k + 1) s u t = some (if Rt s u ∧ 0 ≤ t ∧ t ≤ 1099511627776 then (if s = 0 then (1, t, 0) else (0, 0, 10)) else (0, 0, 1)) := by
  simp only [ask_Begin.f, right_tells, time_tells, Option.bind_some, decide_eq_true_eq, ask_Begin.j0]
  by_cases h1 : Rt s u
  · by_cases h2 : 0 ≤ t ∧ t ≤ 1099511627776
    · by_cases h3 : s = 0 <;> simp [h1, h2, h3] <;> split <;> rfl
    · simp [h1, h2]
  · simp [h1]
theorem answer_tells (s u : Int) (y : Bool) (t : Int) : ask_Answer.f s u y t = some (if Rt s u then (if s = 1 then (if u ≤ t then (0, 0, 12) else ((if y = true then 2 else 3), u, 0)) else (0, 0, 10)) else (0, 0, 1)) := by
  simp only [ask_Answer.f, right_tells, Option.bind_some, decide_eq_true_eq]
  by_cases h1 : Rt s u <;> by_cases h2 : s = 1 <;> by_cases h3 : u ≤ t <;> simp [h1, h2, h3] <;> split <;> rfl
theorem lapse_tells (s u t : Int) : ask_Lapse.f s u t = some (if Rt s u then (if (s = 1 ∨ s = 2) ∧ u ≤ t then (3, u, true, 0) else (s, u, false, 0)) else (0, 0, false, 1)) := by
  simp only [ask_Lapse.f, right_tells, Option.bind_some, decide_eq_true_eq]
  by_cases h1 : Rt s u
  · by_cases h2 : s = 1
    · by_cases h3 : u ≤ t <;> simp [h2, h3] <;> split <;> rfl
    · by_cases h4 : s = 2 <;> by_cases h3 : u ≤ t <;> simp [h1, h2, h3, h4] <;> (try split) <;> (try rfl)
  · simp [h1]
theorem may_tells (s u t : Int) : ask_May.f s u t = some (decide (Rt s u ∧ s = 2 ∧ t < u)) := by
  simp only [ask_May.f, right_tells, Option.bind_some, decide_eq_true_eq]
  by_cases h1 : Rt s u
  · rw [if_pos h1]
    by_cases h2 : s = 2
    · rw [if_pos h2]
      congr 1
      exact decide_eq_decide.2 ⟨fun h => ⟨h1, h2, h⟩, fun h => h.2.2⟩
    · rw [if_neg h2]
      congr 1
      exact (decide_eq_false fun h => h2 h.2.1).symm
  · rw [if_neg h1]
    congr 1
    exact (decide_eq_false fun h => h1 h.1).symm
theorem alive_tells (k : Nat) : tarrylaw12_alive.f (k + 2) = some true := by
  simp only [tarrylaw12_alive.f, begin_tells, answer_tells, may_tells, Option.bind_some]
  decide
/-- How asking stands, as acts go on. -/
def Inv (now asked yes upto s u : Int) : Prop :=
  (s = 0 ∧ u = 0 ∧ asked = 0 ∧ yes = 0) ∨ (s = 1 ∧ asked = 1 ∧ yes = 0 ∧ u = upto) ∨ (s = 2 ∧ asked = 1 ∧ yes = 1 ∧ u = upto) ∨
  (s = 3 ∧ asked = 1 ∧ u = upto ∧ (yes = 0 ∨ (yes = 1 ∧ upto ≤ now)))

theorem j2_tells (k : Nat) (now asked yes upto s u n i : Int) (l : List S36) (hi : 0 ≤ i ∧ i < 20) (hu : 0 ≤ upto ∧ upto ≤ 500) (h : Inv now asked yes upto s u) (r : Option Bool)
    (hr : tarrylaw12_AskOnce.l0 k now asked yes upto l n (i + 1) s u = r) : tarrylaw12_AskOnce.j1 (k + 2) now asked yes upto l n i s u = r := by
  have w : wrap64 (i + 1) = i + 1 := wrap64_id (by omega) (by omega)
  have hR : Rt s u := by unfold Rt; unfold Inv at h; omega
  have hm : (s = 2 ∧ now < u) ↔ (yes = 1 ∧ now < upto) := by unfold Inv at h; omega
  have a1 : ¬ asked > 1 := by unfold Inv at h; omega
  have a2 : ¬ yes > 1 := by unfold Inv at h; omega
  rw [tarrylaw12_AskOnce.j1, if_neg a1, if_neg a2, right_tells, may_tells, decide_eq_true hR]
  simp only [Option.bind_some, if_true, hR, true_and, decide_eq_true_eq, hm]
  have fin : tarrylaw12_AskOnce.j2 (k + 1) now asked yes upto l n i false s u = r := by
    rw [tarrylaw12_AskOnce.j2, if_neg (by decide), may_tells, w]
    simp only [Option.bind_some, hR, true_and, hm, decide_eq_true_eq, hr]
    by_cases h1 : yes = 1
    · by_cases h2 : now < upto
      · rw [if_pos h1, if_pos h2, if_pos ⟨h1, h2⟩]
      · rw [if_pos h1, if_neg h2]
    · rw [if_neg h1]
  by_cases h1 : yes = 1 ∧ now < upto
  · rw [if_pos h1, if_pos h1.1, decide_eq_false (by omega)]
    exact fin
  · rw [if_neg h1]
    exact fin

set_option maxHeartbeats 1000000 in
theorem loop_tells (l : List S36) (hok : ∀ x ∈ l, ok36 x) (d : Nat) : ∀ (k : Nat) (now asked yes upto s u i : Int), i + d = 20 → 0 ≤ i → 5 + 3 * d ≤ k →
    0 ≤ now ∧ now ≤ 19 * i → 0 ≤ upto ∧ upto ≤ 19 * i + 10 → Inv now asked yes upto s u →
    tarrylaw12_AskOnce.l0 k now asked yes upto l (l.length : Int) i s u = some true := by
  induction d with
  | zero =>
    intro k now asked yes upto s u i hd hi hk hn hu h
    obtain ⟨k, rfl⟩ : ∃ m, k = m + 2 + 1 := ⟨k - 3, by omega⟩
    rw [tarrylaw12_AskOnce.l0, alive_tells]
    simp only [Option.bind_some]
    by_cases h1 : i < (l.length : Int)
    · rw [if_pos h1, if_pos hi, if_pos h1, if_pos (by omega)]
    · rw [if_neg h1]
  | succ d ih =>
    intro k now asked yes upto s u i hd hi hk hn hu h
    obtain ⟨k, rfl⟩ : ∃ m, k = m + 2 + 1 := ⟨k - 3, by omega⟩
    rw [tarrylaw12_AskOnce.l0, alive_tells]
    simp only [Option.bind_some]
    by_cases h1 : i < (l.length : Int)
    · rw [if_pos h1, if_pos hi, if_pos h1, if_neg (by omega)]
      have hx : ok36 (rd_T36 l i) := hok _ (by
        unfold rd_T36
        rw [List.getD_eq_getElem?_getD, List.getElem?_eq_getElem (show i.toNat < l.length by omega)]
        exact List.getElem_mem _)
      have x0 := wf64 hx.1
      have x1 := wf64 hx.2.1
      have hb : ∀ f : Int, -9223372036854775808 ≤ f ∧ f ≤ 9223372036854775807 → 0 ≤ Int.tmod (wrap64 (Int.tmod f 20 + 20)) 20 ∧ Int.tmod (wrap64 (Int.tmod f 20 + 20)) 20 ≤ 19 := by
        intro f hf
        have h2 := Int.tmod_lt_of_pos f (show (0 : Int) < 20 by decide)
        have h3 : -20 < Int.tmod f 20 := Int.lt_tmod_of_pos f (by decide)
        rw [wrap64_id (by omega) (by omega), Int.tmod_eq_emod_of_nonneg (by omega)]
        omega
      have hk3 : ∀ f : Int, -9223372036854775808 ≤ f ∧ f ≤ 9223372036854775807 → 0 ≤ Int.tmod (wrap64 (Int.tmod f 3 + 3)) 3 ∧ Int.tmod (wrap64 (Int.tmod f 3 + 3)) 3 ≤ 2 := by
        intro f hf
        have h2 := Int.tmod_lt_of_pos f (show (0 : Int) < 3 by decide)
        have h3 : -3 < Int.tmod f 3 := Int.lt_tmod_of_pos f (by decide)
        rw [wrap64_id (by omega) (by omega), Int.tmod_eq_emod_of_nonneg (by omega)]
        omega
      have hb1 := hb _ x1
      have hk1 := hk3 _ x0
      generalize Int.tmod (wrap64 (Int.tmod (rd_T36 l i).f1 20 + 20)) 20 = b at *
      generalize Int.tmod (wrap64 (Int.tmod (rd_T36 l i).f0 3 + 3)) 3 = q at *
      generalize (rd_T36 l i).f2 = y at *
      have e1 : wrap64 (now + b) = now + b := wrap64_id (by omega) (by omega)
      have e2 : wrap64 (now + b + 10) = now + b + 10 := wrap64_id (by clear e1; omega) (by clear e1; omega)
      have e3 : wrap64 (asked + 1) = asked + 1 := by clear e1 e2; exact wrap64_id (by unfold Inv at h; omega) (by unfold Inv at h; omega)
      have e4 : wrap64 (yes + 1) = yes + 1 := by clear e1 e2 e3; exact wrap64_id (by unfold Inv at h; omega) (by unfold Inv at h; omega)
      have hR : Rt s u := by clear e1 e2 e3 e4; unfold Rt; unfold Inv at h; omega
      rw [e1, e2, e3, e4]
      clear e1 e2 e3 e4
      have go : ∀ (asked yes upto s u : Int), 0 ≤ upto ∧ upto ≤ 19 * (i + 1) + 10 → Inv (now + b) asked yes upto s u → tarrylaw12_AskOnce.j1 (k + 2) (now + b) asked yes upto l (l.length : Int) i s u = some true := by
        intro asked yes upto s u hu2 h2
        exact j2_tells k (now + b) asked yes upto s u _ i l (by omega) (by omega) h2 _ (ih k (now + b) asked yes upto s u (i + 1) (by omega) (by omega) (by omega) (by omega) hu2 h2)
      have same : Inv (now + b) asked yes upto s u := by unfold Inv at h ⊢; omega
      by_cases q0 : q = 0
      · rw [if_pos q0, begin_tells]
        simp only [Option.bind_some]
        have ht : Rt s u ∧ 0 ≤ now + b + 10 ∧ now + b + 10 ≤ 1099511627776 := ⟨hR, by omega, by omega⟩
        rw [if_pos ht]
        by_cases s0 : s = 0
        · rw [if_pos s0, if_pos rfl]
          exact go (asked + 1) yes (now + b + 10) 1 (now + b + 10) (by omega) (by unfold Inv at h ⊢; omega)
        · rw [if_neg s0, if_neg (by decide)]
          exact go _ _ _ _ _ (by omega) same
      · rw [if_neg q0]
        by_cases q1 : q = 1
        · rw [if_pos q1, answer_tells]
          simp only [Option.bind_some]
          rw [if_pos hR]
          by_cases s1 : s = 1
          · rw [if_pos s1]
            by_cases hp : u ≤ now + b
            · rw [if_pos hp, if_neg (by decide)]
              exact go _ _ _ _ _ (by omega) same
            · rw [if_neg hp, if_pos rfl]
              have a1 : asked = 1 := by unfold Inv at h; omega
              have a2 : ¬ now + b ≥ upto := by unfold Inv at h; omega
              cases y
              · rw [if_neg (by decide), if_pos a1, if_neg a2]
                exact go _ _ _ _ _ (by omega) (by unfold Inv at h ⊢; simp; omega)
              · rw [if_pos rfl, if_pos a1, if_neg a2]
                exact go _ _ _ _ _ (by omega) (by unfold Inv at h ⊢; simp; omega)
          · rw [if_neg s1, if_neg (by decide)]
            exact go _ _ _ _ _ (by omega) same
        · rw [if_neg q1, lapse_tells]
          simp only [Option.bind_some]
          rw [if_pos hR]
          by_cases hp : (s = 1 ∨ s = 2) ∧ u ≤ now + b
          · rw [if_pos hp, if_pos rfl]
            refine go asked yes upto 3 u (by omega) (.inr (.inr (.inr ⟨rfl, ?_⟩)))
            rcases h with h | h | h | h
            · omega
            · exact ⟨h.2.1, h.2.2.2, .inl h.2.2.1⟩
            · exact ⟨h.2.1, h.2.2.2, .inr ⟨h.2.2.1, by omega⟩⟩
            · omega
          · rw [if_neg hp, if_pos rfl]
            exact go _ _ _ _ _ (by omega) same
    · rw [if_neg h1]

theorem AskOnce : tarrylaw12_AskOnce.Pure := by
  intro l ⟨_, hok⟩
  refine ⟨70, ?_⟩
  unfold tarrylaw12_AskOnce.f
  exact loop_tells l hok 20 70 0 0 0 0 0 0 0 (by omega) (by omega) (by omega) (by omega) (by omega) (by unfold Inv; omega)

end Go.Proofs.Ytlkcagbkempaeaa.Pure
