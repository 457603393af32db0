/- Written by a program of this repo: what the program's functions do, each as a Lean function, shown of the loaded code; or a statement's row over that; no condition of its own. -/
import Derived.Test.YtmcfgahjchkgaaaProg
import Derived.Test.YtmcfgahjchkgaaaV10
namespace Go.Proofs.Ytmcfgahjchkgaaa.PTimerOrders
open Go Go.RowKit Go.Proofs.YtmcfgahjchkgaaaV
set_option linter.unusedVariables false
set_option linter.unusedSimpArgs false

structure S23 where
  f0 : Int
  f1 : Int
  f2 : Int
def enc23 (x : S23) : List Value := [.int .i64 x.f0, .int .i64 x.f1, .int .i64 x.f2]
theorem enc23_ok (a : S23) : (enc23 a).length = 3 ∧ ∀ u ∈ enc23 a, u.oneCell' = true := ⟨rfl, by intro u hu; simp only [enc23, List.mem_cons, List.not_mem_nil, or_false] at hu; rcases hu with rfl | rfl | rfl <;> rfl⟩
def ok23 (x : S23) : Prop := (Lit.int .i64 x.f0).wf = true ∧ (Lit.int .i64 x.f1).wf = true ∧ (Lit.int .i64 x.f2).wf = true
def enc_inti64 (x : Int) : List Value := [.int .i64 x]
theorem enc_inti64_ok (a : Int) : (enc_inti64 a).length = 1 ∧ ∀ u ∈ enc_inti64 a, u.oneCell' = true := ⟨rfl, by intro u hu; simp only [enc_inti64, List.mem_cons, List.not_mem_nil, or_false] at hu; rcases hu with rfl; rfl⟩
theorem VC.join0 {E : Env} {P : Program} {Q : Exit → Act → World → Prop} {s : St}  {c1 c2 : Code} (I : St) (F : Prop) (hx : VC P E c1 (Exit.then (fun a w => F ∧ Inv E (I) a w) Q) s) (hy : F → VC P E c2 Q (I)) : VC P E (.seq c1 c2) Q s :=
  fun a w hi => wp_seq (Code.wp_mono (fun e a w h => by
    cases e <;> first | exact h | (obtain ⟨hf, hi⟩ := h; exact hy  hf a w hi)) (hx a w hi))
theorem VN.meet0 {E : Env} {Q : Exit → Act → World → Prop} {s : St}  {I : St} {F : Prop}  (bs rs : List Nat) (hf : F) (hl : Le s (I) bs rs) : VN E (Exit.then (fun a w => F ∧ Inv E (I) a w) Q) s :=
  fun a w hi => ⟨hf, hi.le hl⟩
theorem VC.join3 {E : Env} {P : Program} {Q : Exit → Act → World → Prop} {s : St} {α0 : Type} {α1 : Type} {α2 : Type} {c1 c2 : Code} (I : α0 → α1 → α2 → St) (F : α0 → α1 → α2 → Prop) (hx : VC P E c1 (Exit.then (fun a w => ∃ (x0 : α0) (x1 : α1) (x2 : α2), F x0 x1 x2 ∧ Inv E (I x0 x1 x2) a w) Q) s) (hy : ∀ (x0 : α0) (x1 : α1) (x2 : α2), F x0 x1 x2 → VC P E c2 Q (I x0 x1 x2)) : VC P E (.seq c1 c2) Q s :=
  fun a w hi => wp_seq (Code.wp_mono (fun e a w h => by
    cases e <;> first | exact h | (obtain ⟨x0, x1, x2, hf, hi⟩ := h; exact hy x0 x1 x2 hf a w hi)) (hx a w hi))
theorem VN.meet3 {E : Env} {Q : Exit → Act → World → Prop} {s : St} {α0 : Type} {α1 : Type} {α2 : Type} {I : α0 → α1 → α2 → St} {F : α0 → α1 → α2 → Prop} (x0 : α0) (x1 : α1) (x2 : α2) (bs rs : List Nat) (hf : F x0 x1 x2) (hl : Le s (I x0 x1 x2) bs rs) : VN E (Exit.then (fun a w => ∃ (x0 : α0) (x1 : α1) (x2 : α2), F x0 x1 x2 ∧ Inv E (I x0 x1 x2) a w) Q) s :=
  fun a w hi => ⟨x0, x1, x2, hf, hi.le hl⟩
theorem VC.loop1 {E : Env} {P : Program} {Q : Exit → Act → World → Prop} {s : St} {α0 : Type} {c : Code} (I : α0 → St) (F : Nat → α0 → Prop) (k : Nat) (x0 : α0) (bs rs : List Nat) (hf : F k x0) (hl : Le s (I x0) bs rs) (hz : ∀ (x0 : α0), ¬ F 0 x0) (h : ∀ k, (∀ (x0 : α0), F k x0 → VLp P E c Q k (I x0)) → ∀ (x0 : α0), F (k + 1) x0 → VC P E c (Exit.then (Code.rounds P c Q k) Q) (I x0)) : VC P E (.loop c) Q s := by
  have key : ∀ k (x0 : α0), F k x0 → VLp P E c Q k (I x0) := by
    intro k
    induction k with
    | zero => intro x0 hf; exact absurd hf (hz x0)
    | succ k ih => intro x0 hf; exact VLp.succ (h k ih x0 hf)
  exact fun a w hi => wp_loop_rounds k (key k x0 hf a w (hi.le hl))
theorem VC.loop2 {E : Env} {P : Program} {Q : Exit → Act → World → Prop} {s : St} {α0 : Type} {α1 : Type} {c : Code} (I : α0 → α1 → St) (F : Nat → α0 → α1 → Prop) (k : Nat) (x0 : α0) (x1 : α1) (bs rs : List Nat) (hf : F k x0 x1) (hl : Le s (I x0 x1) bs rs) (hz : ∀ (x0 : α0) (x1 : α1), ¬ F 0 x0 x1) (h : ∀ k, (∀ (x0 : α0) (x1 : α1), F k x0 x1 → VLp P E c Q k (I x0 x1)) → ∀ (x0 : α0) (x1 : α1), F (k + 1) x0 x1 → VC P E c (Exit.then (Code.rounds P c Q k) Q) (I x0 x1)) : VC P E (.loop c) Q s := by
  have key : ∀ k (x0 : α0) (x1 : α1), F k x0 x1 → VLp P E c Q k (I x0 x1) := by
    intro k
    induction k with
    | zero => intro x0 x1 hf; exact absurd hf (hz x0 x1)
    | succ k ih => intro x0 x1 hf; exact VLp.succ (h k ih x0 x1 hf)
  exact fun a w hi => wp_loop_rounds k (key k x0 x1 hf a w (hi.le hl))
theorem VC.loop5 {E : Env} {P : Program} {Q : Exit → Act → World → Prop} {s : St} {α0 : Type} {α1 : Type} {α2 : Type} {α3 : Type} {α4 : Type} {c : Code} (I : α0 → α1 → α2 → α3 → α4 → St) (F : Nat → α0 → α1 → α2 → α3 → α4 → Prop) (k : Nat) (x0 : α0) (x1 : α1) (x2 : α2) (x3 : α3) (x4 : α4) (bs rs : List Nat) (hf : F k x0 x1 x2 x3 x4) (hl : Le s (I x0 x1 x2 x3 x4) bs rs) (hz : ∀ (x0 : α0) (x1 : α1) (x2 : α2) (x3 : α3) (x4 : α4), ¬ F 0 x0 x1 x2 x3 x4) (h : ∀ k, (∀ (x0 : α0) (x1 : α1) (x2 : α2) (x3 : α3) (x4 : α4), F k x0 x1 x2 x3 x4 → VLp P E c Q k (I x0 x1 x2 x3 x4)) → ∀ (x0 : α0) (x1 : α1) (x2 : α2) (x3 : α3) (x4 : α4), F (k + 1) x0 x1 x2 x3 x4 → VC P E c (Exit.then (Code.rounds P c Q k) Q) (I x0 x1 x2 x3 x4)) : VC P E (.loop c) Q s := by
  have key : ∀ k (x0 : α0) (x1 : α1) (x2 : α2) (x3 : α3) (x4 : α4), F k x0 x1 x2 x3 x4 → VLp P E c Q k (I x0 x1 x2 x3 x4) := by
    intro k
    induction k with
    | zero => intro x0 x1 x2 x3 x4 hf; exact absurd hf (hz x0 x1 x2 x3 x4)
    | succ k ih => intro x0 x1 x2 x3 x4 hf; exact VLp.succ (h k ih x0 x1 x2 x3 x4 hf)
  exact fun a w hi => wp_loop_rounds k (key k x0 x1 x2 x3 x4 hf a w (hi.le hl))
theorem VC.stop0 {E : Env} {P : Program} {Q : Exit → Act → World → Prop} {s : St}  {c1 : Code} (I : St) (F : Prop) (hx : VC P E c1 (Exit.then (fun a w => F ∧ Inv E (I) a w) Q) s) (hy : F → VN E Q (I)) : VC P E c1 Q s :=
  fun a w hi => Code.wp_mono (fun e a w h => by
    cases e <;> first | exact h | (obtain ⟨hf, hi⟩ := h; exact hy  hf a w hi)) (hx a w hi)
theorem VC.stop3 {E : Env} {P : Program} {Q : Exit → Act → World → Prop} {s : St} {α0 : Type} {α1 : Type} {α2 : Type} {c1 : Code} (I : α0 → α1 → α2 → St) (F : α0 → α1 → α2 → Prop) (hx : VC P E c1 (Exit.then (fun a w => ∃ (x0 : α0) (x1 : α1) (x2 : α2), F x0 x1 x2 ∧ Inv E (I x0 x1 x2) a w) Q) s) (hy : ∀ (x0 : α0) (x1 : α1) (x2 : α2), F x0 x1 x2 → VN E Q (I x0 x1 x2)) : VC P E c1 Q s :=
  fun a w hi => Code.wp_mono (fun e a w h => by
    cases e <;> first | exact h | (obtain ⟨x0, x1, x2, hf, hi⟩ := h; exact hy x0 x1 x2 hf a w hi)) (hx a w hi)
theorem TI24 : TI Try.prog 24 true 3 := ⟨⟨_, Try.underlying24, rfl⟩, by kernel_rfl⟩
theorem FO6 : FOk Try.prog 6 := ⟨_, Try.func6, by kernel_rfl, by kernel_rfl⟩
theorem Z24 : (Try.prog.info? 24).bind (·.zero) = some (.agg #[.int .i64 0, .int .i64 0, .int .i64 0]) := by kernel_rfl
theorem TI3 : TI Try.prog 3 false 1 := ⟨⟨_, Try.underlying3, rfl⟩, by kernel_rfl⟩
theorem FI24_0 : FI Try.prog 24 0 0 1 := ⟨_, _, _, Try.underlying24, rfl, rfl, TI3⟩
theorem FI24_1 : FI Try.prog 24 1 1 1 := ⟨_, _, _, Try.underlying24, rfl, rfl, TI3⟩
theorem FI24_2 : FI Try.prog 24 2 2 1 := ⟨_, _, _, Try.underlying24, rfl, rfl, TI3⟩
theorem FO19 : FOk Try.prog 19 := ⟨_, Try.func19, by kernel_rfl, by kernel_rfl⟩
theorem FO21 : FOk Try.prog 21 := ⟨_, Try.func21, by kernel_rfl, by kernel_rfl⟩
theorem FO29 : FOk Try.prog 29 := ⟨_, Try.func29, by kernel_rfl, by kernel_rfl⟩
theorem FO34 : FOk Try.prog 34 := ⟨_, Try.func34, by kernel_rfl, by kernel_rfl⟩
theorem FO25 : FOk Try.prog 25 := ⟨_, Try.func25, by kernel_rfl, by kernel_rfl⟩
theorem FO35 : FOk Try.prog 35 := ⟨_, Try.func35, by kernel_rfl, by kernel_rfl⟩
theorem FO31 : FOk Try.prog 31 := ⟨_, Try.func31, by kernel_rfl, by kernel_rfl⟩
theorem Z3 : (Try.prog.info? 3).bind (·.zero) = some (.int .i64 0) := by kernel_rfl
theorem FO30 : FOk Try.prog 30 := ⟨_, Try.func30, by kernel_rfl, by kernel_rfl⟩
theorem FO23 : FOk Try.prog 23 := ⟨_, Try.func23, by kernel_rfl, by kernel_rfl⟩
theorem FO26 : FOk Try.prog 26 := ⟨_, Try.func26, by kernel_rfl, by kernel_rfl⟩
theorem FO11 : FOk Try.prog 11 := ⟨_, Try.func11, by kernel_rfl, by kernel_rfl⟩
theorem EI24 : EI Try.prog 24 3 24 := ei_of (z := .agg #[.int .i64 0, .int .i64 0, .int .i64 0]) (by kernel_rfl) rfl (by decide) (by decide)
theorem FO20 : FOk Try.prog 20 := ⟨_, Try.func20, by kernel_rfl, by kernel_rfl⟩
theorem FO22 : FOk Try.prog 22 := ⟨_, Try.func22, by kernel_rfl, by kernel_rfl⟩
theorem FO24 : FOk Try.prog 24 := ⟨_, Try.func24, by kernel_rfl, by kernel_rfl⟩
theorem FO7 : FOk Try.prog 7 := ⟨_, Try.func7, by kernel_rfl, by kernel_rfl⟩
theorem SI24 : SI Try.prog 24 [.int .i64 0, .int .i64 0, .int .i64 0] [(0, 1), (1, 1), (2, 1)] := ⟨⟨_, Try.underlying24, (.cons ⟨rfl, _, TI3⟩ (.cons ⟨rfl, _, TI3⟩ (.cons ⟨rfl, _, TI3⟩ .nil)))⟩, Z24⟩
theorem FO27 : FOk Try.prog 27 := ⟨_, Try.func27, by kernel_rfl, by kernel_rfl⟩
theorem FO12 : FOk Try.prog 12 := ⟨_, Try.func12, by kernel_rfl, by kernel_rfl⟩
theorem FO8 : FOk Try.prog 8 := ⟨_, Try.func8, by kernel_rfl, by kernel_rfl⟩
theorem FO9 : FOk Try.prog 9 := ⟨_, Try.func9, by kernel_rfl, by kernel_rfl⟩
theorem EQ24 (a0 : Int) (a1 : Int) (a2 : Int) (b0 : Int) (b1 : Int) (b2 : Int) : EqV Try.prog 10000 24 (.agg #[.int .i64 a0, .int .i64 a1, .int .i64 a2]) (.agg #[.int .i64 b0, .int .i64 b1, .int .i64 b2]) ((a0 == b0) && ((a1 == b1) && (a2 == b2))) := (.struct Try.underlying24 (by kernel_rfl) (.cons (by decide) TI3 (fun _ => rfl) rfl rfl rfl rfl (.int Try.underlying3) (.cons (by decide) TI3 (fun _ => rfl) rfl rfl rfl rfl (.int Try.underlying3) (.one (by decide) TI3 (fun _ => rfl) rfl rfl rfl rfl (.int Try.underlying3)))))
theorem EG24 : Try.prog.eqGuardType Try.prog.depth 24 = false := by kernel_rfl
theorem FO10 : FOk Try.prog 10 := ⟨_, Try.func10, by kernel_rfl, by kernel_rfl⟩
def tarrylaw10_few.f (l0 : List S23) : Option (List S23) := (if 0 ≤ mn (l0.length : Int) 98 then (if (mn (l0.length : Int) 98) ≤ (l0.length : Int) then (some ((l0.take ((mn (l0.length : Int) 98).toNat)).drop 0)) else none) else none)
def timer_may.f (a0_0 : Int) (a0_1 : Int) (a0_2 : Int) : Option (Bool) := (if a0_0 ≥ 0 then (if a0_0 ≤ 1099511627776 then (if a0_1 ≥ 1 then (if a0_1 ≤ 3 then (if a0_2 ≥ 1 then (some (decide (a0_2 ≤ 1099511627776))) else (some false)) else (some false)) else (some false)) else (some false)) else (some false))
def timer_of.f (a0 : Int) (a1 : Int) : Option (Int × Int) := (some (a0, a1))
def timer_of_1.f (a0_0 : Int) (a0_1 : Int) (a0_2 : Int) (a1_0 : Int) (a2_0 : Int) : Option (Bool) := (if a0_1 = a1_0 then (some (a0_2 == a2_0)) else (some false))
def slices_IndexFunc_api_Timer_api_Timer.l1 (k : Nat) (a1_0_0 : Int) (a1_1_0 : Int) (l0 : List S23) : Nat → Int → Option (Int)
  | 0, _ => none
  | ml1 + 1, i140 => (if i140 < (l0.length : Int) then (if 0 ≤ i140 then ((l0[i140.toNat]?).bind fun x169 => ((timer_of_1.f x169.f0 x169.f1 x169.f2 a1_0_0 a1_1_0).bind fun t172 => (if t172 = true then (some i140) else (slices_IndexFunc_api_Timer_api_Timer.l1 k a1_0_0 a1_1_0 l0 ml1 (wrap64 (i140 + 1)))))) else none) else (some (-1)))
def slices_IndexFunc_api_Timer_api_Timer.f (k : Nat) (l0 : List S23) (a1_0_0 : Int) (a1_1_0 : Int) : Option (Int) := (slices_IndexFunc_api_Timer_api_Timer.l1 k a1_0_0 a1_1_0 l0 k 0)
def slices_ContainsFunc_api_Timer_api_Timer.f (k : Nat) (l0 : List S23) (a1_0_0 : Int) (a1_1_0 : Int) : Option (Bool) := ((slices_IndexFunc_api_Timer_api_Timer.f k l0 a1_0_0 a1_1_0).bind fun t175 => (some (decide (t175 ≥ 0))))
def cmp_isNaN_int.f (a0 : Int) : Option (Bool) := (some (a0 != a0))
def cmp_Compare_int.f (a0 : Int) (a1 : Int) : Option (Int) := ((cmp_isNaN_int.f a0).bind fun t381 => ((cmp_isNaN_int.f a1).bind fun t383 => (if t381 = true then (if t383 = true then (some 0) else (some (-1))) else (if t383 = true then (some 1) else (if a0 < a1 then (some (-1)) else (if a0 > a1 then (some 1) else (some 0)))))))
def cmp_Or_int.l1 (k : Nat) (l0 : List Int) : Nat → Int → Option (Int)
  | 0, _ => none
  | ml1 + 1, i467 => (if i467 < (l0.length : Int) then (if 0 ≤ i467 then ((l0[i467.toNat]?).bind fun x493 => (if x493 = 0 then (cmp_Or_int.l1 k l0 ml1 (wrap64 (i467 + 1))) else (some x493))) else none) else (some 0))
def cmp_Or_int.f (k : Nat) (l0 : List Int) : Option (Int) := (cmp_Or_int.l1 k l0 k 0)
def timer_compare.f (k : Nat) (a0_0 : Int) (a0_1 : Int) (a0_2 : Int) (a1_0 : Int) (a1_1 : Int) (a1_2 : Int) : Option (Int) := ((cmp_Compare_int.f a0_0 a1_0).bind fun t401 => ((cmp_Compare_int.f a0_1 a1_1).bind fun t403 => ((cmp_Compare_int.f a0_2 a1_2).bind fun t405 => ((cmp_Or_int.f k ([t401, t403, t405] : List Int)).bind fun t498 => (some t498)))))
def slices_IsSortedFunc_api_Timer_api_Timer.l1 (k : Nat) (l0 : List S23) : Nat → Int → Option (Bool)
  | 0, _ => none
  | ml1 + 1, i573 => (if i573 > 0 then (if 0 ≤ i573 then ((l0[i573.toNat]?).bind fun x607 => (if 0 ≤ wrap64 (i573 - 1) then ((l0[(wrap64 (i573 - 1)).toNat]?).bind fun x609 => ((timer_compare.f k x607.f0 x607.f1 x607.f2 x609.f0 x609.f1 x609.f2).bind fun t610 => (if t610 < 0 then (some false) else (slices_IsSortedFunc_api_Timer_api_Timer.l1 k l0 ml1 (wrap64 (i573 - 1)))))) else none)) else none) else (some true))
def slices_IsSortedFunc_api_Timer_api_Timer.f (k : Nat) (l0 : List S23) : Option (Bool) := (slices_IsSortedFunc_api_Timer_api_Timer.l1 k l0 k (wrap64 ((l0.length : Int) - 1)))
def timer_Right.l1 (k : Nat) (l0 : List S23) : Nat → Int → Option (Bool)
  | 0, _ => none
  | ml1 + 1, i321 => (if i321 < (l0.length : Int) then (if 0 ≤ i321 then ((l0[i321.toNat]?).bind fun x641 => ((timer_may.f x641.f0 x641.f1 x641.f2).bind fun t645 => (if t645 = true then (if i321 ≤ (l0.length : Int) then ((timer_of.f x641.f1 x641.f2).bind fun ⟨t651, t652⟩ => ((slices_ContainsFunc_api_Timer_api_Timer.f k ((l0.take i321.toNat).drop 0) t651 t652).bind fun t656 => (if t656 = true then (some false) else (timer_Right.l1 k l0 ml1 (wrap64 (i321 + 1)))))) else none) else (some false)))) else none) else (if (l0.length : Int) ≤ 96 then ((slices_IsSortedFunc_api_Timer_api_Timer.f k l0).bind fun t665 => (some t665)) else (some false)))
def timer_Right.f (k : Nat) (l0 : List S23) : Option (Bool) := (timer_Right.l1 k l0 k 0)
def timer_parted_Timer.l1 (k : Nat) (a1_0_0 : Int) (a1_1_0 : Int) (l0 : List S23) : Nat → (List S23) → (List S23) → Int → Option (List S23 × List S23)
  | 0, _, _, _ => none
  | ml1 + 1, l870, l874, i876 => (if i876 < (l0.length : Int) then (if 0 ≤ i876 then ((l0[i876.toNat]?).bind fun x938 => ((timer_of_1.f x938.f0 x938.f1 x938.f2 a1_0_0 a1_1_0).bind fun t942 => (if t942 = true then (if (l870.length + ([x938] : List S23).length) * 24 ≤ 140737488355328 then (timer_parted_Timer.l1 k a1_0_0 a1_1_0 l0 ml1 (l870 ++ ([x938] : List S23)) l874 (wrap64 (i876 + 1))) else none) else (if (l874.length + ([x938] : List S23).length) * 24 ≤ 140737488355328 then (timer_parted_Timer.l1 k a1_0_0 a1_1_0 l0 ml1 l870 (l874 ++ ([x938] : List S23)) (wrap64 (i876 + 1))) else none)))) else none) else (some (l870, l874)))
def timer_parted_Timer.f (k : Nat) (l0 : List S23) (a1_0_0 : Int) (a1_1_0 : Int) : Option (List S23 × List S23) := (timer_parted_Timer.l1 k a1_0_0 a1_1_0 l0 k ([] : List S23) ([] : List S23) 0)
def slices_BinarySearchFunc_api_Timer_api_Timer_api_Timer.l1 (k : Nat) (a1_0 : Int) (a1_1 : Int) (a1_2 : Int) (l0 : List S23) : Nat → Int → Int → Option (Int × Bool)
  | 0, _, _ => none
  | ml1 + 1, i1014, i1015 => (if i1014 < i1015 then (if 0 ≤ wrap64 ((IntKind.u64.wrap (wrap64 (i1014 + i1015))).fdiv (2 ^ min (1 : Int).toNat IntKind.u64.bits)) then ((l0[(wrap64 ((IntKind.u64.wrap (wrap64 (i1014 + i1015))).fdiv (2 ^ min (1 : Int).toNat IntKind.u64.bits))).toNat]?).bind fun x1038 => ((timer_compare.f k x1038.f0 x1038.f1 x1038.f2 a1_0 a1_1 a1_2).bind fun t1039 => (if t1039 < 0 then (slices_BinarySearchFunc_api_Timer_api_Timer_api_Timer.l1 k a1_0 a1_1 a1_2 l0 ml1 (wrap64 ((wrap64 ((IntKind.u64.wrap (wrap64 (i1014 + i1015))).fdiv (2 ^ min (1 : Int).toNat IntKind.u64.bits))) + 1)) i1015) else (slices_BinarySearchFunc_api_Timer_api_Timer_api_Timer.l1 k a1_0 a1_1 a1_2 l0 ml1 i1014 (wrap64 ((IntKind.u64.wrap (wrap64 (i1014 + i1015))).fdiv (2 ^ min (1 : Int).toNat IntKind.u64.bits))))))) else none) else (if i1014 < (l0.length : Int) then (if 0 ≤ i1014 then ((l0[i1014.toNat]?).bind fun x1046 => ((timer_compare.f k x1046.f0 x1046.f1 x1046.f2 a1_0 a1_1 a1_2).bind fun t1047 => (some (i1014, (t1047 == 0))))) else none) else (some (i1014, false))))
def slices_BinarySearchFunc_api_Timer_api_Timer_api_Timer.f (k : Nat) (l0 : List S23) (a1_0 : Int) (a1_1 : Int) (a1_2 : Int) : Option (Int × Bool) := (slices_BinarySearchFunc_api_Timer_api_Timer_api_Timer.l1 k a1_0 a1_1 a1_2 l0 k 0 (l0.length : Int))
def slices_Insert_api_Timer_api_Timer.f (l0 : List S23) (a1 : Int) (l2 : List S23) : Option (List S23) := if 0 ≤ a1 ∧ a1 ≤ (l0.length : Int) ∧ (l0.length + l2.length) * 24 ≤ 140737488355328 then some (l0.take a1.toNat ++ l2 ++ l0.drop a1.toNat) else none
def timer_Set.f (k : Nat) (l0 : List S23) (a1_0 : Int) (a1_1 : Int) (a1_2 : Int) : Option (List S23 × Int) := ((timer_Right.f k l0).bind fun t687 => (if t687 = true then ((timer_may.f a1_0 a1_1 a1_2).bind fun t690 => (if t690 = true then ((timer_of.f a1_1 a1_2).bind fun ⟨t693, t694⟩ => ((timer_parted_Timer.f k l0 t693 t694).bind fun ⟨r955, r956⟩ => (if (r956.length : Int) = 96 then (some (([] : List S23), 7)) else ((slices_BinarySearchFunc_api_Timer_api_Timer_api_Timer.f k r956 a1_0 a1_1 a1_2).bind fun ⟨t1050, t1051⟩ => ((slices_Insert_api_Timer_api_Timer.f r956 t1050 ([(⟨a1_0, a1_1, a1_2⟩ : S23)] : List S23)).bind fun r1055 => (some (r1055, 0))))))) else (some (([] : List S23), 1)))) else (some (([] : List S23), 1))))
def timer_Due_1.f (a0_0 : Int) (a0_1 : Int) (a0_2 : Int) (a1_0 : Int) : Option (Bool) := (some (decide (a0_0 ≤ a1_0)))
def timer_parted_Timer_s16.l1 (k : Nat) (a1_0_0 : Int) (l0 : List S23) : Nat → (List S23) → (List S23) → Int → Option (List S23 × List S23)
  | 0, _, _, _ => none
  | ml1 + 1, l1264, l1268, i1270 => (if i1270 < (l0.length : Int) then (if 0 ≤ i1270 then ((l0[i1270.toNat]?).bind fun x1332 => ((timer_Due_1.f x1332.f0 x1332.f1 x1332.f2 a1_0_0).bind fun t1336 => (if t1336 = true then (if (l1264.length + ([x1332] : List S23).length) * 24 ≤ 140737488355328 then (timer_parted_Timer_s16.l1 k a1_0_0 l0 ml1 (l1264 ++ ([x1332] : List S23)) l1268 (wrap64 (i1270 + 1))) else none) else (if (l1268.length + ([x1332] : List S23).length) * 24 ≤ 140737488355328 then (timer_parted_Timer_s16.l1 k a1_0_0 l0 ml1 l1264 (l1268 ++ ([x1332] : List S23)) (wrap64 (i1270 + 1))) else none)))) else none) else (some (l1264, l1268)))
def timer_parted_Timer_s16.f (k : Nat) (l0 : List S23) (a1_0_0 : Int) : Option (List S23 × List S23) := (timer_parted_Timer_s16.l1 k a1_0_0 l0 k ([] : List S23) ([] : List S23) 0)
def timer_Due.f (k : Nat) (l0 : List S23) (a1 : Int) : Option (List S23 × List S23 × Int) := ((timer_Right.f k l0).bind fun t1087 => (if t1087 = true then ((timer_parted_Timer_s16.f k l0 a1).bind fun ⟨r1349, r1350⟩ => (some (r1349, r1350, 0))) else (some (([] : List S23), ([] : List S23), 1))))
def tarrylaw10_alive.f (k : Nat)  : Option (Bool) := ((timer_Set.f k [] 5 2 1).bind fun ⟨r1069, t1070⟩ => ((timer_Due.f k r1069 5).bind fun ⟨r1358, r1359, t1360⟩ => (if t1070 = 0 then (if t1360 = 0 then (if (r1358.length : Int) = 1 then ((r1358[0]?).bind fun x1382 => (some (x1382.f0 == 5))) else (some false)) else (some false)) else (some false))))
def timer_Clear.f (k : Nat) (l0 : List S23) (a1 : Int) (a2 : Int) : Option (List S23 × Int) := ((timer_Right.f k l0).bind fun t1407 => (if t1407 = true then ((timer_of.f a1 a2).bind fun ⟨t1410, t1411⟩ => ((timer_parted_Timer.f k l0 t1410 t1411).bind fun ⟨r1415, r1416⟩ => (some (r1416, 0)))) else (some (([] : List S23), 1))))
def tarryref10_Same.l1 (k : Nat) (l0 : List S23) (l1 : List S23) : Nat → Int → Option (Bool)
  | 0, _ => none
  | ml1 + 1, i1496 => (if i1496 < (l0.length : Int) then (if 0 ≤ i1496 then ((l0[i1496.toNat]?).bind fun x1519 => ((l1[i1496.toNat]?).bind fun x1520 => (if (((x1519.f0 == x1520.f0) && ((x1519.f1 == x1520.f1) && (x1519.f2 == x1520.f2)))) = true then (tarryref10_Same.l1 k l0 l1 ml1 (wrap64 (i1496 + 1))) else (some false)))) else none) else (some true))
def tarryref10_Same.f (k : Nat) (l0 : List S23) (l1 : List S23) : Option (Bool) := (if (l0.length : Int) = (l1.length : Int) then (tarryref10_Same.l1 k l0 l1 k 0) else (some false))
def tarrylaw10_TimerOrders.f (k : Nat) (l0 : List S23) (a1_0 : Int) (a1_1 : Int) (a1_2 : Int) (a2_0 : Int) (a2_1 : Int) (a2_2 : Int) : Option (Bool) := ((tarrylaw10_few.f l0).bind fun r14 => ((timer_Set.f k r14 a1_0 a1_1 a1_2).bind fun ⟨r1061, t1062⟩ => (if t1062 = 0 then ((timer_Clear.f k r1061 a1_1 a1_2).bind fun ⟨r1423, t1424⟩ => ((timer_Clear.f k r14 a1_1 a1_2).bind fun ⟨r1428, t1429⟩ => (if t1424 = 0 then (if t1429 = 0 then ((tarryref10_Same.f k r1423 r1428).bind fun t1571 => (if t1571 = true then ((timer_Right.f k r1061).bind fun t1574 => (if t1574 = true then ((timer_Right.f k r1423).bind fun t1577 => (if t1577 = true then ((tarrylaw10_alive.f k).bind fun t1580 => (if t1580 = true then ((timer_Set.f k r1061 a2_0 a2_1 a2_2).bind fun ⟨r1583, t1584⟩ => (if t1584 = 0 then (if a1_1 = a2_1 then (if a1_2 = a2_2 then ((timer_Set.f k r14 a2_0 a2_1 a2_2).bind fun ⟨r1620, t1621⟩ => (if t1621 = 0 then ((tarryref10_Same.f k r1583 r1620).bind fun t1631 => (some t1631)) else none)) else ((timer_Set.f k r14 a2_0 a2_1 a2_2).bind fun ⟨r1633, t1634⟩ => ((timer_Set.f k r1633 a1_0 a1_1 a1_2).bind fun ⟨r1638, t1639⟩ => (if t1634 = 0 then (if t1639 = 0 then ((tarryref10_Same.f k r1583 r1638).bind fun t1653 => (some t1653)) else none) else none)))) else ((timer_Set.f k r14 a2_0 a2_1 a2_2).bind fun ⟨r1655, t1656⟩ => ((timer_Set.f k r1655 a1_0 a1_1 a1_2).bind fun ⟨r1660, t1661⟩ => (if t1656 = 0 then (if t1661 = 0 then ((tarryref10_Same.f k r1583 r1660).bind fun t1675 => (some t1675)) else none) else none)))) else (some ((r1583.length : Int) == 0)))) else none)) else none)) else none)) else none)) else none) else none))) else ((tarrylaw10_alive.f k).bind fun t1682 => (if t1682 = true then (some ((r1061.length : Int) == 0)) else none)))))
/-- THE ONE PURE STATEMENT. -/
def tarrylaw10_TimerOrders.Pure : Prop := ∀ (l0 : List S23) (a1_0 : Int) (a1_1 : Int) (a1_2 : Int) (a2_0 : Int) (a2_1 : Int) (a2_2 : Int), allOk ok23 l0 → (Lit.int .i64 a1_0).wf = true → (Lit.int .i64 a1_1).wf = true → (Lit.int .i64 a1_2).wf = true → (Lit.int .i64 a2_0).wf = true → (Lit.int .i64 a2_1).wf = true → (Lit.int .i64 a2_2).wf = true → ∃ k, tarrylaw10_TimerOrders.f k l0 a1_0 a1_1 a1_2 a2_0 a2_1 a2_2 = some true

end Go.Proofs.Ytmcfgahjchkgaaa.PTimerOrders
