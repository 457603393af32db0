/- Written by a program of this repo: what the program's functions do, each as a Lean function, shown of the loaded code; or a statement's row over that; no condition of its own. -/
import Derived.Test.YtmcfgahjchkgaaaProg
import Derived.Test.YtmcfgahjchkgaaaV10
namespace Go.Proofs.Ytmcfgahjchkgaaa.PTimerPasses
open Go Go.RowKit Go.Proofs.YtmcfgahjchkgaaaV
set_option linter.unusedVariables false
set_option linter.unusedSimpArgs false

structure S23 where
  f0 : Int
  f1 : Int
  f2 : Int
def enc23 (x : S23) : List Value := [.int .i64 x.f0, .int .i64 x.f1, .int .i64 x.f2]
theorem enc23_ok (a : S23) : (enc23 a).length = 3 ∧ ∀ u ∈ enc23 a, u.oneCell' = true := ⟨rfl, by intro u hu; simp only [enc23, List.mem_cons, List.not_mem_nil, or_false] at hu; rcases hu with rfl | rfl | rfl <;> rfl⟩
def ok23 (x : S23) : Prop := (Lit.int .i64 x.f0).wf = true ∧ (Lit.int .i64 x.f1).wf = true ∧ (Lit.int .i64 x.f2).wf = true
def enc_inti64 (x : Int) : List Value := [.int .i64 x]
theorem enc_inti64_ok (a : Int) : (enc_inti64 a).length = 1 ∧ ∀ u ∈ enc_inti64 a, u.oneCell' = true := ⟨rfl, by intro u hu; simp only [enc_inti64, List.mem_cons, List.not_mem_nil, or_false] at hu; rcases hu with rfl; rfl⟩
theorem VC.join0 {E : Env} {P : Program} {Q : Exit → Act → World → Prop} {s : St}  {c1 c2 : Code} (I : St) (F : Prop) (hx : VC P E c1 (Exit.then (fun a w => F ∧ Inv E (I) a w) Q) s) (hy : F → VC P E c2 Q (I)) : VC P E (.seq c1 c2) Q s :=
  fun a w hi => wp_seq (Code.wp_mono (fun e a w h => by
    cases e <;> first | exact h | (obtain ⟨hf, hi⟩ := h; exact hy  hf a w hi)) (hx a w hi))
theorem VN.meet0 {E : Env} {Q : Exit → Act → World → Prop} {s : St}  {I : St} {F : Prop}  (bs rs : List Nat) (hf : F) (hl : Le s (I) bs rs) : VN E (Exit.then (fun a w => F ∧ Inv E (I) a w) Q) s :=
  fun a w hi => ⟨hf, hi.le hl⟩
theorem VC.join3 {E : Env} {P : Program} {Q : Exit → Act → World → Prop} {s : St} {α0 : Type} {α1 : Type} {α2 : Type} {c1 c2 : Code} (I : α0 → α1 → α2 → St) (F : α0 → α1 → α2 → Prop) (hx : VC P E c1 (Exit.then (fun a w => ∃ (x0 : α0) (x1 : α1) (x2 : α2), F x0 x1 x2 ∧ Inv E (I x0 x1 x2) a w) Q) s) (hy : ∀ (x0 : α0) (x1 : α1) (x2 : α2), F x0 x1 x2 → VC P E c2 Q (I x0 x1 x2)) : VC P E (.seq c1 c2) Q s :=
  fun a w hi => wp_seq (Code.wp_mono (fun e a w h => by
    cases e <;> first | exact h | (obtain ⟨x0, x1, x2, hf, hi⟩ := h; exact hy x0 x1 x2 hf a w hi)) (hx a w hi))
theorem VN.meet3 {E : Env} {Q : Exit → Act → World → Prop} {s : St} {α0 : Type} {α1 : Type} {α2 : Type} {I : α0 → α1 → α2 → St} {F : α0 → α1 → α2 → Prop} (x0 : α0) (x1 : α1) (x2 : α2) (bs rs : List Nat) (hf : F x0 x1 x2) (hl : Le s (I x0 x1 x2) bs rs) : VN E (Exit.then (fun a w => ∃ (x0 : α0) (x1 : α1) (x2 : α2), F x0 x1 x2 ∧ Inv E (I x0 x1 x2) a w) Q) s :=
  fun a w hi => ⟨x0, x1, x2, hf, hi.le hl⟩
theorem VC.loop1 {E : Env} {P : Program} {Q : Exit → Act → World → Prop} {s : St} {α0 : Type} {c : Code} (I : α0 → St) (F : Nat → α0 → Prop) (k : Nat) (x0 : α0) (bs rs : List Nat) (hf : F k x0) (hl : Le s (I x0) bs rs) (hz : ∀ (x0 : α0), ¬ F 0 x0) (h : ∀ k, (∀ (x0 : α0), F k x0 → VLp P E c Q k (I x0)) → ∀ (x0 : α0), F (k + 1) x0 → VC P E c (Exit.then (Code.rounds P c Q k) Q) (I x0)) : VC P E (.loop c) Q s := by
  have key : ∀ k (x0 : α0), F k x0 → VLp P E c Q k (I x0) := by
    intro k
    induction k with
    | zero => intro x0 hf; exact absurd hf (hz x0)
    | succ k ih => intro x0 hf; exact VLp.succ (h k ih x0 hf)
  exact fun a w hi => wp_loop_rounds k (key k x0 hf a w (hi.le hl))
theorem VC.loop2 {E : Env} {P : Program} {Q : Exit → Act → World → Prop} {s : St} {α0 : Type} {α1 : Type} {c : Code} (I : α0 → α1 → St) (F : Nat → α0 → α1 → Prop) (k : Nat) (x0 : α0) (x1 : α1) (bs rs : List Nat) (hf : F k x0 x1) (hl : Le s (I x0 x1) bs rs) (hz : ∀ (x0 : α0) (x1 : α1), ¬ F 0 x0 x1) (h : ∀ k, (∀ (x0 : α0) (x1 : α1), F k x0 x1 → VLp P E c Q k (I x0 x1)) → ∀ (x0 : α0) (x1 : α1), F (k + 1) x0 x1 → VC P E c (Exit.then (Code.rounds P c Q k) Q) (I x0 x1)) : VC P E (.loop c) Q s := by
  have key : ∀ k (x0 : α0) (x1 : α1), F k x0 x1 → VLp P E c Q k (I x0 x1) := by
    intro k
    induction k with
    | zero => intro x0 x1 hf; exact absurd hf (hz x0 x1)
    | succ k ih => intro x0 x1 hf; exact VLp.succ (h k ih x0 x1 hf)
  exact fun a w hi => wp_loop_rounds k (key k x0 x1 hf a w (hi.le hl))
theorem VC.loop5 {E : Env} {P : Program} {Q : Exit → Act → World → Prop} {s : St} {α0 : Type} {α1 : Type} {α2 : Type} {α3 : Type} {α4 : Type} {c : Code} (I : α0 → α1 → α2 → α3 → α4 → St) (F : Nat → α0 → α1 → α2 → α3 → α4 → Prop) (k : Nat) (x0 : α0) (x1 : α1) (x2 : α2) (x3 : α3) (x4 : α4) (bs rs : List Nat) (hf : F k x0 x1 x2 x3 x4) (hl : Le s (I x0 x1 x2 x3 x4) bs rs) (hz : ∀ (x0 : α0) (x1 : α1) (x2 : α2) (x3 : α3) (x4 : α4), ¬ F 0 x0 x1 x2 x3 x4) (h : ∀ k, (∀ (x0 : α0) (x1 : α1) (x2 : α2) (x3 : α3) (x4 : α4), F k x0 x1 x2 x3 x4 → VLp P E c Q k (I x0 x1 x2 x3 x4)) → ∀ (x0 : α0) (x1 : α1) (x2 : α2) (x3 : α3) (x4 : α4), F (k + 1) x0 x1 x2 x3 x4 → VC P E c (Exit.then (Code.rounds P c Q k) Q) (I x0 x1 x2 x3 x4)) : VC P E (.loop c) Q s := by
  have key : ∀ k (x0 : α0) (x1 : α1) (x2 : α2) (x3 : α3) (x4 : α4), F k x0 x1 x2 x3 x4 → VLp P E c Q k (I x0 x1 x2 x3 x4) := by
    intro k
    induction k with
    | zero => intro x0 x1 x2 x3 x4 hf; exact absurd hf (hz x0 x1 x2 x3 x4)
    | succ k ih => intro x0 x1 x2 x3 x4 hf; exact VLp.succ (h k ih x0 x1 x2 x3 x4 hf)
  exact fun a w hi => wp_loop_rounds k (key k x0 x1 x2 x3 x4 hf a w (hi.le hl))
theorem VC.stop0 {E : Env} {P : Program} {Q : Exit → Act → World → Prop} {s : St}  {c1 : Code} (I : St) (F : Prop) (hx : VC P E c1 (Exit.then (fun a w => F ∧ Inv E (I) a w) Q) s) (hy : F → VN E Q (I)) : VC P E c1 Q s :=
  fun a w hi => Code.wp_mono (fun e a w h => by
    cases e <;> first | exact h | (obtain ⟨hf, hi⟩ := h; exact hy  hf a w hi)) (hx a w hi)
theorem VC.stop3 {E : Env} {P : Program} {Q : Exit → Act → World → Prop} {s : St} {α0 : Type} {α1 : Type} {α2 : Type} {c1 : Code} (I : α0 → α1 → α2 → St) (F : α0 → α1 → α2 → Prop) (hx : VC P E c1 (Exit.then (fun a w => ∃ (x0 : α0) (x1 : α1) (x2 : α2), F x0 x1 x2 ∧ Inv E (I x0 x1 x2) a w) Q) s) (hy : ∀ (x0 : α0) (x1 : α1) (x2 : α2), F x0 x1 x2 → VN E Q (I x0 x1 x2)) : VC P E c1 Q s :=
  fun a w hi => Code.wp_mono (fun e a w h => by
    cases e <;> first | exact h | (obtain ⟨x0, x1, x2, hf, hi⟩ := h; exact hy x0 x1 x2 hf a w hi)) (hx a w hi)
theorem TI24 : TI Try.prog 24 true 3 := ⟨⟨_, Try.underlying24, rfl⟩, by kernel_rfl⟩
theorem FO6 : FOk Try.prog 6 := ⟨_, Try.func6, by kernel_rfl, by kernel_rfl⟩
theorem Z24 : (Try.prog.info? 24).bind (·.zero) = some (.agg #[.int .i64 0, .int .i64 0, .int .i64 0]) := by kernel_rfl
theorem TI3 : TI Try.prog 3 false 1 := ⟨⟨_, Try.underlying3, rfl⟩, by kernel_rfl⟩
theorem FI24_0 : FI Try.prog 24 0 0 1 := ⟨_, _, _, Try.underlying24, rfl, rfl, TI3⟩
theorem FI24_1 : FI Try.prog 24 1 1 1 := ⟨_, _, _, Try.underlying24, rfl, rfl, TI3⟩
theorem FI24_2 : FI Try.prog 24 2 2 1 := ⟨_, _, _, Try.underlying24, rfl, rfl, TI3⟩
theorem FO19 : FOk Try.prog 19 := ⟨_, Try.func19, by kernel_rfl, by kernel_rfl⟩
theorem FO21 : FOk Try.prog 21 := ⟨_, Try.func21, by kernel_rfl, by kernel_rfl⟩
theorem FO29 : FOk Try.prog 29 := ⟨_, Try.func29, by kernel_rfl, by kernel_rfl⟩
theorem FO34 : FOk Try.prog 34 := ⟨_, Try.func34, by kernel_rfl, by kernel_rfl⟩
theorem FO25 : FOk Try.prog 25 := ⟨_, Try.func25, by kernel_rfl, by kernel_rfl⟩
theorem FO35 : FOk Try.prog 35 := ⟨_, Try.func35, by kernel_rfl, by kernel_rfl⟩
theorem FO31 : FOk Try.prog 31 := ⟨_, Try.func31, by kernel_rfl, by kernel_rfl⟩
theorem Z3 : (Try.prog.info? 3).bind (·.zero) = some (.int .i64 0) := by kernel_rfl
theorem FO30 : FOk Try.prog 30 := ⟨_, Try.func30, by kernel_rfl, by kernel_rfl⟩
theorem FO23 : FOk Try.prog 23 := ⟨_, Try.func23, by kernel_rfl, by kernel_rfl⟩
theorem FO26 : FOk Try.prog 26 := ⟨_, Try.func26, by kernel_rfl, by kernel_rfl⟩
theorem FO11 : FOk Try.prog 11 := ⟨_, Try.func11, by kernel_rfl, by kernel_rfl⟩
theorem FO27 : FOk Try.prog 27 := ⟨_, Try.func27, by kernel_rfl, by kernel_rfl⟩
theorem EI24 : EI Try.prog 24 3 24 := ei_of (z := .agg #[.int .i64 0, .int .i64 0, .int .i64 0]) (by kernel_rfl) rfl (by decide) (by decide)
theorem FO20 : FOk Try.prog 20 := ⟨_, Try.func20, by kernel_rfl, by kernel_rfl⟩
theorem FO12 : FOk Try.prog 12 := ⟨_, Try.func12, by kernel_rfl, by kernel_rfl⟩
theorem SI24 : SI Try.prog 24 [.int .i64 0, .int .i64 0, .int .i64 0] [(0, 1), (1, 1), (2, 1)] := ⟨⟨_, Try.underlying24, (.cons ⟨rfl, _, TI3⟩ (.cons ⟨rfl, _, TI3⟩ (.cons ⟨rfl, _, TI3⟩ .nil)))⟩, Z24⟩
theorem FO22 : FOk Try.prog 22 := ⟨_, Try.func22, by kernel_rfl, by kernel_rfl⟩
theorem FO24 : FOk Try.prog 24 := ⟨_, Try.func24, by kernel_rfl, by kernel_rfl⟩
theorem FO7 : FOk Try.prog 7 := ⟨_, Try.func7, by kernel_rfl, by kernel_rfl⟩
theorem FO8 : FOk Try.prog 8 := ⟨_, Try.func8, by kernel_rfl, by kernel_rfl⟩
theorem EQ24 (a0 : Int) (a1 : Int) (a2 : Int) (b0 : Int) (b1 : Int) (b2 : Int) : EqV Try.prog 10000 24 (.agg #[.int .i64 a0, .int .i64 a1, .int .i64 a2]) (.agg #[.int .i64 b0, .int .i64 b1, .int .i64 b2]) ((a0 == b0) && ((a1 == b1) && (a2 == b2))) := (.struct Try.underlying24 (by kernel_rfl) (.cons (by decide) TI3 (fun _ => rfl) rfl rfl rfl rfl (.int Try.underlying3) (.cons (by decide) TI3 (fun _ => rfl) rfl rfl rfl rfl (.int Try.underlying3) (.one (by decide) TI3 (fun _ => rfl) rfl rfl rfl rfl (.int Try.underlying3)))))
theorem EG24 : Try.prog.eqGuardType Try.prog.depth 24 = false := by kernel_rfl
theorem FO10 : FOk Try.prog 10 := ⟨_, Try.func10, by kernel_rfl, by kernel_rfl⟩
theorem FO13 : FOk Try.prog 13 := ⟨_, Try.func13, by kernel_rfl, by kernel_rfl⟩
def tarrylaw10_few.f (l0 : List S23) : Option (List S23) := (if 0 ≤ mn (l0.length : Int) 98 then (if (mn (l0.length : Int) 98) ≤ (l0.length : Int) then (some ((l0.take ((mn (l0.length : Int) 98).toNat)).drop 0)) else none) else none)
def timer_may.f (a0_0 : Int) (a0_1 : Int) (a0_2 : Int) : Option (Bool) := (if a0_0 ≥ 0 then (if a0_0 ≤ 1099511627776 then (if a0_1 ≥ 1 then (if a0_1 ≤ 3 then (if a0_2 ≥ 1 then (some (decide (a0_2 ≤ 1099511627776))) else (some false)) else (some false)) else (some false)) else (some false)) else (some false))
def timer_of.f (a0 : Int) (a1 : Int) : Option (Int × Int) := (some (a0, a1))
def timer_of_1.f (a0_0 : Int) (a0_1 : Int) (a0_2 : Int) (a1_0 : Int) (a2_0 : Int) : Option (Bool) := (if a0_1 = a1_0 then (some (a0_2 == a2_0)) else (some false))
def slices_IndexFunc_api_Timer_api_Timer.l1 (k : Nat) (a1_0_0 : Int) (a1_1_0 : Int) (l0 : List S23) : Nat → Int → Option (Int)
  | 0, _ => none
  | ml1 + 1, i138 => (if i138 < (l0.length : Int) then (if 0 ≤ i138 then ((l0[i138.toNat]?).bind fun x167 => ((timer_of_1.f x167.f0 x167.f1 x167.f2 a1_0_0 a1_1_0).bind fun t170 => (if t170 = true then (some i138) else (slices_IndexFunc_api_Timer_api_Timer.l1 k a1_0_0 a1_1_0 l0 ml1 (wrap64 (i138 + 1)))))) else none) else (some (-1)))
def slices_IndexFunc_api_Timer_api_Timer.f (k : Nat) (l0 : List S23) (a1_0_0 : Int) (a1_1_0 : Int) : Option (Int) := (slices_IndexFunc_api_Timer_api_Timer.l1 k a1_0_0 a1_1_0 l0 k 0)
def slices_ContainsFunc_api_Timer_api_Timer.f (k : Nat) (l0 : List S23) (a1_0_0 : Int) (a1_1_0 : Int) : Option (Bool) := ((slices_IndexFunc_api_Timer_api_Timer.f k l0 a1_0_0 a1_1_0).bind fun t173 => (some (decide (t173 ≥ 0))))
def cmp_isNaN_int.f (a0 : Int) : Option (Bool) := (some (a0 != a0))
def cmp_Compare_int.f (a0 : Int) (a1 : Int) : Option (Int) := ((cmp_isNaN_int.f a0).bind fun t379 => ((cmp_isNaN_int.f a1).bind fun t381 => (if t379 = true then (if t381 = true then (some 0) else (some (-1))) else (if t381 = true then (some 1) else (if a0 < a1 then (some (-1)) else (if a0 > a1 then (some 1) else (some 0)))))))
def cmp_Or_int.l1 (k : Nat) (l0 : List Int) : Nat → Int → Option (Int)
  | 0, _ => none
  | ml1 + 1, i465 => (if i465 < (l0.length : Int) then (if 0 ≤ i465 then ((l0[i465.toNat]?).bind fun x491 => (if x491 = 0 then (cmp_Or_int.l1 k l0 ml1 (wrap64 (i465 + 1))) else (some x491))) else none) else (some 0))
def cmp_Or_int.f (k : Nat) (l0 : List Int) : Option (Int) := (cmp_Or_int.l1 k l0 k 0)
def timer_compare.f (k : Nat) (a0_0 : Int) (a0_1 : Int) (a0_2 : Int) (a1_0 : Int) (a1_1 : Int) (a1_2 : Int) : Option (Int) := ((cmp_Compare_int.f a0_0 a1_0).bind fun t399 => ((cmp_Compare_int.f a0_1 a1_1).bind fun t401 => ((cmp_Compare_int.f a0_2 a1_2).bind fun t403 => ((cmp_Or_int.f k ([t399, t401, t403] : List Int)).bind fun t496 => (some t496)))))
def slices_IsSortedFunc_api_Timer_api_Timer.l1 (k : Nat) (l0 : List S23) : Nat → Int → Option (Bool)
  | 0, _ => none
  | ml1 + 1, i571 => (if i571 > 0 then (if 0 ≤ i571 then ((l0[i571.toNat]?).bind fun x605 => (if 0 ≤ wrap64 (i571 - 1) then ((l0[(wrap64 (i571 - 1)).toNat]?).bind fun x607 => ((timer_compare.f k x605.f0 x605.f1 x605.f2 x607.f0 x607.f1 x607.f2).bind fun t608 => (if t608 < 0 then (some false) else (slices_IsSortedFunc_api_Timer_api_Timer.l1 k l0 ml1 (wrap64 (i571 - 1)))))) else none)) else none) else (some true))
def slices_IsSortedFunc_api_Timer_api_Timer.f (k : Nat) (l0 : List S23) : Option (Bool) := (slices_IsSortedFunc_api_Timer_api_Timer.l1 k l0 k (wrap64 ((l0.length : Int) - 1)))
def timer_Right.l1 (k : Nat) (l0 : List S23) : Nat → Int → Option (Bool)
  | 0, _ => none
  | ml1 + 1, i319 => (if i319 < (l0.length : Int) then (if 0 ≤ i319 then ((l0[i319.toNat]?).bind fun x639 => ((timer_may.f x639.f0 x639.f1 x639.f2).bind fun t643 => (if t643 = true then (if i319 ≤ (l0.length : Int) then ((timer_of.f x639.f1 x639.f2).bind fun ⟨t649, t650⟩ => ((slices_ContainsFunc_api_Timer_api_Timer.f k ((l0.take i319.toNat).drop 0) t649 t650).bind fun t654 => (if t654 = true then (some false) else (timer_Right.l1 k l0 ml1 (wrap64 (i319 + 1)))))) else none) else (some false)))) else none) else (if (l0.length : Int) ≤ 96 then ((slices_IsSortedFunc_api_Timer_api_Timer.f k l0).bind fun t663 => (some t663)) else (some false)))
def timer_Right.f (k : Nat) (l0 : List S23) : Option (Bool) := (timer_Right.l1 k l0 k 0)
def timer_Due_1.f (a0_0 : Int) (a0_1 : Int) (a0_2 : Int) (a1_0 : Int) : Option (Bool) := (some (decide (a0_0 ≤ a1_0)))
def timer_parted_Timer.l1 (k : Nat) (a1_0_0 : Int) (l0 : List S23) : Nat → (List S23) → (List S23) → Int → Option (List S23 × List S23)
  | 0, _, _, _ => none
  | ml1 + 1, l853, l857, i859 => (if i859 < (l0.length : Int) then (if 0 ≤ i859 then ((l0[i859.toNat]?).bind fun x921 => ((timer_Due_1.f x921.f0 x921.f1 x921.f2 a1_0_0).bind fun t925 => (if t925 = true then (if (l853.length + ([x921] : List S23).length) * 24 ≤ 140737488355328 then (timer_parted_Timer.l1 k a1_0_0 l0 ml1 (l853 ++ ([x921] : List S23)) l857 (wrap64 (i859 + 1))) else none) else (if (l857.length + ([x921] : List S23).length) * 24 ≤ 140737488355328 then (timer_parted_Timer.l1 k a1_0_0 l0 ml1 l853 (l857 ++ ([x921] : List S23)) (wrap64 (i859 + 1))) else none)))) else none) else (some (l853, l857)))
def timer_parted_Timer.f (k : Nat) (l0 : List S23) (a1_0_0 : Int) : Option (List S23 × List S23) := (timer_parted_Timer.l1 k a1_0_0 l0 k ([] : List S23) ([] : List S23) 0)
def timer_Due.f (k : Nat) (l0 : List S23) (a1 : Int) : Option (List S23 × List S23 × Int) := ((timer_Right.f k l0).bind fun t676 => (if t676 = true then ((timer_parted_Timer.f k l0 a1).bind fun ⟨r938, r939⟩ => (some (r938, r939, 0))) else (some (([] : List S23), ([] : List S23), 1))))
def timer_parted_Timer_s15.l1 (k : Nat) (a1_0_0 : Int) (a1_1_0 : Int) (l0 : List S23) : Nat → (List S23) → (List S23) → Int → Option (List S23 × List S23)
  | 0, _, _, _ => none
  | ml1 + 1, l1162, l1166, i1168 => (if i1168 < (l0.length : Int) then (if 0 ≤ i1168 then ((l0[i1168.toNat]?).bind fun x1230 => ((timer_of_1.f x1230.f0 x1230.f1 x1230.f2 a1_0_0 a1_1_0).bind fun t1234 => (if t1234 = true then (if (l1162.length + ([x1230] : List S23).length) * 24 ≤ 140737488355328 then (timer_parted_Timer_s15.l1 k a1_0_0 a1_1_0 l0 ml1 (l1162 ++ ([x1230] : List S23)) l1166 (wrap64 (i1168 + 1))) else none) else (if (l1166.length + ([x1230] : List S23).length) * 24 ≤ 140737488355328 then (timer_parted_Timer_s15.l1 k a1_0_0 a1_1_0 l0 ml1 l1162 (l1166 ++ ([x1230] : List S23)) (wrap64 (i1168 + 1))) else none)))) else none) else (some (l1162, l1166)))
def timer_parted_Timer_s15.f (k : Nat) (l0 : List S23) (a1_0_0 : Int) (a1_1_0 : Int) : Option (List S23 × List S23) := (timer_parted_Timer_s15.l1 k a1_0_0 a1_1_0 l0 k ([] : List S23) ([] : List S23) 0)
def slices_BinarySearchFunc_api_Timer_api_Timer_api_Timer.l1 (k : Nat) (a1_0 : Int) (a1_1 : Int) (a1_2 : Int) (l0 : List S23) : Nat → Int → Int → Option (Int × Bool)
  | 0, _, _ => none
  | ml1 + 1, i1306, i1307 => (if i1306 < i1307 then (if 0 ≤ wrap64 ((IntKind.u64.wrap (wrap64 (i1306 + i1307))).fdiv (2 ^ min (1 : Int).toNat IntKind.u64.bits)) then ((l0[(wrap64 ((IntKind.u64.wrap (wrap64 (i1306 + i1307))).fdiv (2 ^ min (1 : Int).toNat IntKind.u64.bits))).toNat]?).bind fun x1330 => ((timer_compare.f k x1330.f0 x1330.f1 x1330.f2 a1_0 a1_1 a1_2).bind fun t1331 => (if t1331 < 0 then (slices_BinarySearchFunc_api_Timer_api_Timer_api_Timer.l1 k a1_0 a1_1 a1_2 l0 ml1 (wrap64 ((wrap64 ((IntKind.u64.wrap (wrap64 (i1306 + i1307))).fdiv (2 ^ min (1 : Int).toNat IntKind.u64.bits))) + 1)) i1307) else (slices_BinarySearchFunc_api_Timer_api_Timer_api_Timer.l1 k a1_0 a1_1 a1_2 l0 ml1 i1306 (wrap64 ((IntKind.u64.wrap (wrap64 (i1306 + i1307))).fdiv (2 ^ min (1 : Int).toNat IntKind.u64.bits))))))) else none) else (if i1306 < (l0.length : Int) then (if 0 ≤ i1306 then ((l0[i1306.toNat]?).bind fun x1338 => ((timer_compare.f k x1338.f0 x1338.f1 x1338.f2 a1_0 a1_1 a1_2).bind fun t1339 => (some (i1306, (t1339 == 0))))) else none) else (some (i1306, false))))
def slices_BinarySearchFunc_api_Timer_api_Timer_api_Timer.f (k : Nat) (l0 : List S23) (a1_0 : Int) (a1_1 : Int) (a1_2 : Int) : Option (Int × Bool) := (slices_BinarySearchFunc_api_Timer_api_Timer_api_Timer.l1 k a1_0 a1_1 a1_2 l0 k 0 (l0.length : Int))
def slices_Insert_api_Timer_api_Timer.f (l0 : List S23) (a1 : Int) (l2 : List S23) : Option (List S23) := if 0 ≤ a1 ∧ a1 ≤ (l0.length : Int) ∧ (l0.length + l2.length) * 24 ≤ 140737488355328 then some (l0.take a1.toNat ++ l2 ++ l0.drop a1.toNat) else none
def timer_Set.f (k : Nat) (l0 : List S23) (a1_0 : Int) (a1_1 : Int) (a1_2 : Int) : Option (List S23 × Int) := ((timer_Right.f k l0).bind fun t979 => (if t979 = true then ((timer_may.f a1_0 a1_1 a1_2).bind fun t982 => (if t982 = true then ((timer_of.f a1_1 a1_2).bind fun ⟨t985, t986⟩ => ((timer_parted_Timer_s15.f k l0 t985 t986).bind fun ⟨r1247, r1248⟩ => (if (r1248.length : Int) = 96 then (some (([] : List S23), 7)) else ((slices_BinarySearchFunc_api_Timer_api_Timer_api_Timer.f k r1248 a1_0 a1_1 a1_2).bind fun ⟨t1342, t1343⟩ => ((slices_Insert_api_Timer_api_Timer.f r1248 t1342 ([(⟨a1_0, a1_1, a1_2⟩ : S23)] : List S23)).bind fun r1347 => (some (r1347, 0))))))) else (some (([] : List S23), 1)))) else (some (([] : List S23), 1))))
def tarrylaw10_alive.f (k : Nat)  : Option (Bool) := ((timer_Set.f k [] 5 2 1).bind fun ⟨r1354, t1355⟩ => ((timer_Due.f k r1354 5).bind fun ⟨r1359, r1360, t1361⟩ => (if t1355 = 0 then (if t1361 = 0 then (if (r1359.length : Int) = 1 then ((r1359[0]?).bind fun x1383 => (some (x1383.f0 == 5))) else (some false)) else (some false)) else (some false))))
def tarryref10_Same.l1 (k : Nat) (l0 : List S23) (l1 : List S23) : Nat → Int → Option (Bool)
  | 0, _ => none
  | ml1 + 1, i1482 => (if i1482 < (l0.length : Int) then (if 0 ≤ i1482 then ((l0[i1482.toNat]?).bind fun x1505 => ((l1[i1482.toNat]?).bind fun x1506 => (if (((x1505.f0 == x1506.f0) && ((x1505.f1 == x1506.f1) && (x1505.f2 == x1506.f2)))) = true then (tarryref10_Same.l1 k l0 l1 ml1 (wrap64 (i1482 + 1))) else (some false)))) else none) else (some true))
def tarryref10_Same.f (k : Nat) (l0 : List S23) (l1 : List S23) : Option (Bool) := (if (l0.length : Int) = (l1.length : Int) then (tarryref10_Same.l1 k l0 l1 k 0) else (some false))
def timer_Next.f (k : Nat) (l0 : List S23) : Option (Int × Int) := ((timer_Right.f k l0).bind fun t1607 => (if t1607 = true then (if (l0.length : Int) = 0 then (some (0, 8)) else ((l0[0]?).bind fun x1612 => (some (x1612.f0, 0)))) else (some (0, 1))))
def tarrylaw10_TimerPasses.f (k : Nat) (l0 : List S23) (a1 : Int) (a2 : Int) : Option (Bool) := ((tarrylaw10_few.f l0).bind fun r12 => ((timer_Due.f k r12 ((wrap64 ((a1.tmod 100) + 100)).tmod 100)).bind fun ⟨r947, r948, t949⟩ => (if t949 = 0 then ((timer_Due.f k r12 (wrap64 (((wrap64 ((a1.tmod 100) + 100)).tmod 100) + ((wrap64 ((a2.tmod 100) + 100)).tmod 100)))).bind fun ⟨r1401, r1402, t1403⟩ => ((timer_Due.f k r948 ((wrap64 ((a1.tmod 100) + 100)).tmod 100)).bind fun ⟨r1409, r1410, t1411⟩ => (if t1403 = 0 then (if t1411 = 0 then (if (r1409.length : Int) = 0 then ((tarryref10_Same.f k r1410 r948).bind fun t1578 => (if t1578 = true then (if (wrap64 ((r947.length : Int) + (r948.length : Int))) = (r12.length : Int) then (if (r1401.length : Int) < (r947.length : Int) then none else (if 0 ≤ (r947.length : Int) then (if (r947.length : Int) ≤ (r1401.length : Int) then ((tarryref10_Same.f k ((r1401.take ((r947.length : Int).toNat)).drop 0) r947).bind fun t1589 => (if t1589 = true then ((tarrylaw10_alive.f k).bind fun t1592 => (if t1592 = true then ((timer_Next.f k r948).bind fun ⟨t1615, t1616⟩ => (if t1616 = 8 then (if (r948.length : Int) = 0 then (some true) else (if t1616 = 0 then (some (decide (t1615 > ((wrap64 ((a1.tmod 100) + 100)).tmod 100)))) else none)) else (if t1616 = 0 then (some (decide (t1615 > ((wrap64 ((a1.tmod 100) + 100)).tmod 100)))) else none))) else none)) else none)) else none) else none)) else none) else none)) else none) else none) else none))) else ((tarrylaw10_alive.f k).bind fun t1644 => (if t1644 = true then ((timer_Right.f k r12).bind fun t1647 => (if t1647 = true then none else (some true))) else none)))))
/-- THE ONE PURE STATEMENT. -/
def tarrylaw10_TimerPasses.Pure : Prop := ∀ (l0 : List S23) (a1 : Int) (a2 : Int), allOk ok23 l0 → (Lit.int .i64 a1).wf = true → (Lit.int .i64 a2).wf = true → ∃ k, tarrylaw10_TimerPasses.f k l0 a1 a2 = some true

end Go.Proofs.Ytmcfgahjchkgaaa.PTimerPasses
