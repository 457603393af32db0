/- Written by a program of this repo: what the program's functions do, each as a Lean function, shown of the loaded code; or a statement's row over that; no condition of its own. -/
import Derived.Test.YtmcfgahjchkgaaaProg
import Derived.Test.YtmcfgahjchkgaaaV10
namespace Go.Proofs.Ytmcfgahjchkgaaa.PTimerSets
open Go Go.RowKit Go.Proofs.YtmcfgahjchkgaaaV
set_option linter.unusedVariables false
set_option linter.unusedSimpArgs false

structure S23 where
  f0 : Int
  f1 : Int
  f2 : Int
def enc23 (x : S23) : List Value := [.int .i64 x.f0, .int .i64 x.f1, .int .i64 x.f2]
theorem enc23_ok (a : S23) : (enc23 a).length = 3 ∧ ∀ u ∈ enc23 a, u.oneCell' = true := ⟨rfl, by intro u hu; simp only [enc23, List.mem_cons, List.not_mem_nil, or_false] at hu; rcases hu with rfl | rfl | rfl <;> rfl⟩
def ok23 (x : S23) : Prop := (Lit.int .i64 x.f0).wf = true ∧ (Lit.int .i64 x.f1).wf = true ∧ (Lit.int .i64 x.f2).wf = true
def enc_inti64 (x : Int) : List Value := [.int .i64 x]
theorem enc_inti64_ok (a : Int) : (enc_inti64 a).length = 1 ∧ ∀ u ∈ enc_inti64 a, u.oneCell' = true := ⟨rfl, by intro u hu; simp only [enc_inti64, List.mem_cons, List.not_mem_nil, or_false] at hu; rcases hu with rfl; rfl⟩
theorem VC.join0 {E : Env} {P : Program} {Q : Exit → Act → World → Prop} {s : St}  {c1 c2 : Code} (I : St) (F : Prop) (hx : VC P E c1 (Exit.then (fun a w => F ∧ Inv E (I) a w) Q) s) (hy : F → VC P E c2 Q (I)) : VC P E (.seq c1 c2) Q s :=
  fun a w hi => wp_seq (Code.wp_mono (fun e a w h => by
    cases e <;> first | exact h | (obtain ⟨hf, hi⟩ := h; exact hy  hf a w hi)) (hx a w hi))
theorem VN.meet0 {E : Env} {Q : Exit → Act → World → Prop} {s : St}  {I : St} {F : Prop}  (bs rs : List Nat) (hf : F) (hl : Le s (I) bs rs) : VN E (Exit.then (fun a w => F ∧ Inv E (I) a w) Q) s :=
  fun a w hi => ⟨hf, hi.le hl⟩
theorem VC.join1 {E : Env} {P : Program} {Q : Exit → Act → World → Prop} {s : St} {α0 : Type} {c1 c2 : Code} (I : α0 → St) (F : α0 → Prop) (hx : VC P E c1 (Exit.then (fun a w => ∃ (x0 : α0), F x0 ∧ Inv E (I x0) a w) Q) s) (hy : ∀ (x0 : α0), F x0 → VC P E c2 Q (I x0)) : VC P E (.seq c1 c2) Q s :=
  fun a w hi => wp_seq (Code.wp_mono (fun e a w h => by
    cases e <;> first | exact h | (obtain ⟨x0, hf, hi⟩ := h; exact hy x0 hf a w hi)) (hx a w hi))
theorem VN.meet1 {E : Env} {Q : Exit → Act → World → Prop} {s : St} {α0 : Type} {I : α0 → St} {F : α0 → Prop} (x0 : α0) (bs rs : List Nat) (hf : F x0) (hl : Le s (I x0) bs rs) : VN E (Exit.then (fun a w => ∃ (x0 : α0), F x0 ∧ Inv E (I x0) a w) Q) s :=
  fun a w hi => ⟨x0, hf, hi.le hl⟩
theorem VC.join3 {E : Env} {P : Program} {Q : Exit → Act → World → Prop} {s : St} {α0 : Type} {α1 : Type} {α2 : Type} {c1 c2 : Code} (I : α0 → α1 → α2 → St) (F : α0 → α1 → α2 → Prop) (hx : VC P E c1 (Exit.then (fun a w => ∃ (x0 : α0) (x1 : α1) (x2 : α2), F x0 x1 x2 ∧ Inv E (I x0 x1 x2) a w) Q) s) (hy : ∀ (x0 : α0) (x1 : α1) (x2 : α2), F x0 x1 x2 → VC P E c2 Q (I x0 x1 x2)) : VC P E (.seq c1 c2) Q s :=
  fun a w hi => wp_seq (Code.wp_mono (fun e a w h => by
    cases e <;> first | exact h | (obtain ⟨x0, x1, x2, hf, hi⟩ := h; exact hy x0 x1 x2 hf a w hi)) (hx a w hi))
theorem VN.meet3 {E : Env} {Q : Exit → Act → World → Prop} {s : St} {α0 : Type} {α1 : Type} {α2 : Type} {I : α0 → α1 → α2 → St} {F : α0 → α1 → α2 → Prop} (x0 : α0) (x1 : α1) (x2 : α2) (bs rs : List Nat) (hf : F x0 x1 x2) (hl : Le s (I x0 x1 x2) bs rs) : VN E (Exit.then (fun a w => ∃ (x0 : α0) (x1 : α1) (x2 : α2), F x0 x1 x2 ∧ Inv E (I x0 x1 x2) a w) Q) s :=
  fun a w hi => ⟨x0, x1, x2, hf, hi.le hl⟩
theorem VC.loop1 {E : Env} {P : Program} {Q : Exit → Act → World → Prop} {s : St} {α0 : Type} {c : Code} (I : α0 → St) (F : Nat → α0 → Prop) (k : Nat) (x0 : α0) (bs rs : List Nat) (hf : F k x0) (hl : Le s (I x0) bs rs) (hz : ∀ (x0 : α0), ¬ F 0 x0) (h : ∀ k, (∀ (x0 : α0), F k x0 → VLp P E c Q k (I x0)) → ∀ (x0 : α0), F (k + 1) x0 → VC P E c (Exit.then (Code.rounds P c Q k) Q) (I x0)) : VC P E (.loop c) Q s := by
  have key : ∀ k (x0 : α0), F k x0 → VLp P E c Q k (I x0) := by
    intro k
    induction k with
    | zero => intro x0 hf; exact absurd hf (hz x0)
    | succ k ih => intro x0 hf; exact VLp.succ (h k ih x0 hf)
  exact fun a w hi => wp_loop_rounds k (key k x0 hf a w (hi.le hl))
theorem VC.loop2 {E : Env} {P : Program} {Q : Exit → Act → World → Prop} {s : St} {α0 : Type} {α1 : Type} {c : Code} (I : α0 → α1 → St) (F : Nat → α0 → α1 → Prop) (k : Nat) (x0 : α0) (x1 : α1) (bs rs : List Nat) (hf : F k x0 x1) (hl : Le s (I x0 x1) bs rs) (hz : ∀ (x0 : α0) (x1 : α1), ¬ F 0 x0 x1) (h : ∀ k, (∀ (x0 : α0) (x1 : α1), F k x0 x1 → VLp P E c Q k (I x0 x1)) → ∀ (x0 : α0) (x1 : α1), F (k + 1) x0 x1 → VC P E c (Exit.then (Code.rounds P c Q k) Q) (I x0 x1)) : VC P E (.loop c) Q s := by
  have key : ∀ k (x0 : α0) (x1 : α1), F k x0 x1 → VLp P E c Q k (I x0 x1) := by
    intro k
    induction k with
    | zero => intro x0 x1 hf; exact absurd hf (hz x0 x1)
    | succ k ih => intro x0 x1 hf; exact VLp.succ (h k ih x0 x1 hf)
  exact fun a w hi => wp_loop_rounds k (key k x0 x1 hf a w (hi.le hl))
theorem VC.loop3 {E : Env} {P : Program} {Q : Exit → Act → World → Prop} {s : St} {α0 : Type} {α1 : Type} {α2 : Type} {c : Code} (I : α0 → α1 → α2 → St) (F : Nat → α0 → α1 → α2 → Prop) (k : Nat) (x0 : α0) (x1 : α1) (x2 : α2) (bs rs : List Nat) (hf : F k x0 x1 x2) (hl : Le s (I x0 x1 x2) bs rs) (hz : ∀ (x0 : α0) (x1 : α1) (x2 : α2), ¬ F 0 x0 x1 x2) (h : ∀ k, (∀ (x0 : α0) (x1 : α1) (x2 : α2), F k x0 x1 x2 → VLp P E c Q k (I x0 x1 x2)) → ∀ (x0 : α0) (x1 : α1) (x2 : α2), F (k + 1) x0 x1 x2 → VC P E c (Exit.then (Code.rounds P c Q k) Q) (I x0 x1 x2)) : VC P E (.loop c) Q s := by
  have key : ∀ k (x0 : α0) (x1 : α1) (x2 : α2), F k x0 x1 x2 → VLp P E c Q k (I x0 x1 x2) := by
    intro k
    induction k with
    | zero => intro x0 x1 x2 hf; exact absurd hf (hz x0 x1 x2)
    | succ k ih => intro x0 x1 x2 hf; exact VLp.succ (h k ih x0 x1 x2 hf)
  exact fun a w hi => wp_loop_rounds k (key k x0 x1 x2 hf a w (hi.le hl))
theorem VC.loop4 {E : Env} {P : Program} {Q : Exit → Act → World → Prop} {s : St} {α0 : Type} {α1 : Type} {α2 : Type} {α3 : Type} {c : Code} (I : α0 → α1 → α2 → α3 → St) (F : Nat → α0 → α1 → α2 → α3 → Prop) (k : Nat) (x0 : α0) (x1 : α1) (x2 : α2) (x3 : α3) (bs rs : List Nat) (hf : F k x0 x1 x2 x3) (hl : Le s (I x0 x1 x2 x3) bs rs) (hz : ∀ (x0 : α0) (x1 : α1) (x2 : α2) (x3 : α3), ¬ F 0 x0 x1 x2 x3) (h : ∀ k, (∀ (x0 : α0) (x1 : α1) (x2 : α2) (x3 : α3), F k x0 x1 x2 x3 → VLp P E c Q k (I x0 x1 x2 x3)) → ∀ (x0 : α0) (x1 : α1) (x2 : α2) (x3 : α3), F (k + 1) x0 x1 x2 x3 → VC P E c (Exit.then (Code.rounds P c Q k) Q) (I x0 x1 x2 x3)) : VC P E (.loop c) Q s := by
  have key : ∀ k (x0 : α0) (x1 : α1) (x2 : α2) (x3 : α3), F k x0 x1 x2 x3 → VLp P E c Q k (I x0 x1 x2 x3) := by
    intro k
    induction k with
    | zero => intro x0 x1 x2 x3 hf; exact absurd hf (hz x0 x1 x2 x3)
    | succ k ih => intro x0 x1 x2 x3 hf; exact VLp.succ (h k ih x0 x1 x2 x3 hf)
  exact fun a w hi => wp_loop_rounds k (key k x0 x1 x2 x3 hf a w (hi.le hl))
theorem VC.loop5 {E : Env} {P : Program} {Q : Exit → Act → World → Prop} {s : St} {α0 : Type} {α1 : Type} {α2 : Type} {α3 : Type} {α4 : Type} {c : Code} (I : α0 → α1 → α2 → α3 → α4 → St) (F : Nat → α0 → α1 → α2 → α3 → α4 → Prop) (k : Nat) (x0 : α0) (x1 : α1) (x2 : α2) (x3 : α3) (x4 : α4) (bs rs : List Nat) (hf : F k x0 x1 x2 x3 x4) (hl : Le s (I x0 x1 x2 x3 x4) bs rs) (hz : ∀ (x0 : α0) (x1 : α1) (x2 : α2) (x3 : α3) (x4 : α4), ¬ F 0 x0 x1 x2 x3 x4) (h : ∀ k, (∀ (x0 : α0) (x1 : α1) (x2 : α2) (x3 : α3) (x4 : α4), F k x0 x1 x2 x3 x4 → VLp P E c Q k (I x0 x1 x2 x3 x4)) → ∀ (x0 : α0) (x1 : α1) (x2 : α2) (x3 : α3) (x4 : α4), F (k + 1) x0 x1 x2 x3 x4 → VC P E c (Exit.then (Code.rounds P c Q k) Q) (I x0 x1 x2 x3 x4)) : VC P E (.loop c) Q s := by
  have key : ∀ k (x0 : α0) (x1 : α1) (x2 : α2) (x3 : α3) (x4 : α4), F k x0 x1 x2 x3 x4 → VLp P E c Q k (I x0 x1 x2 x3 x4) := by
    intro k
    induction k with
    | zero => intro x0 x1 x2 x3 x4 hf; exact absurd hf (hz x0 x1 x2 x3 x4)
    | succ k ih => intro x0 x1 x2 x3 x4 hf; exact VLp.succ (h k ih x0 x1 x2 x3 x4 hf)
  exact fun a w hi => wp_loop_rounds k (key k x0 x1 x2 x3 x4 hf a w (hi.le hl))
theorem VC.stop0 {E : Env} {P : Program} {Q : Exit → Act → World → Prop} {s : St}  {c1 : Code} (I : St) (F : Prop) (hx : VC P E c1 (Exit.then (fun a w => F ∧ Inv E (I) a w) Q) s) (hy : F → VN E Q (I)) : VC P E c1 Q s :=
  fun a w hi => Code.wp_mono (fun e a w h => by
    cases e <;> first | exact h | (obtain ⟨hf, hi⟩ := h; exact hy  hf a w hi)) (hx a w hi)
theorem VC.stop1 {E : Env} {P : Program} {Q : Exit → Act → World → Prop} {s : St} {α0 : Type} {c1 : Code} (I : α0 → St) (F : α0 → Prop) (hx : VC P E c1 (Exit.then (fun a w => ∃ (x0 : α0), F x0 ∧ Inv E (I x0) a w) Q) s) (hy : ∀ (x0 : α0), F x0 → VN E Q (I x0)) : VC P E c1 Q s :=
  fun a w hi => Code.wp_mono (fun e a w h => by
    cases e <;> first | exact h | (obtain ⟨x0, hf, hi⟩ := h; exact hy x0 hf a w hi)) (hx a w hi)
theorem VC.stop3 {E : Env} {P : Program} {Q : Exit → Act → World → Prop} {s : St} {α0 : Type} {α1 : Type} {α2 : Type} {c1 : Code} (I : α0 → α1 → α2 → St) (F : α0 → α1 → α2 → Prop) (hx : VC P E c1 (Exit.then (fun a w => ∃ (x0 : α0) (x1 : α1) (x2 : α2), F x0 x1 x2 ∧ Inv E (I x0 x1 x2) a w) Q) s) (hy : ∀ (x0 : α0) (x1 : α1) (x2 : α2), F x0 x1 x2 → VN E Q (I x0 x1 x2)) : VC P E c1 Q s :=
  fun a w hi => Code.wp_mono (fun e a w h => by
    cases e <;> first | exact h | (obtain ⟨x0, x1, x2, hf, hi⟩ := h; exact hy x0 x1 x2 hf a w hi)) (hx a w hi)
theorem TI24 : TI Try.prog 24 true 3 := ⟨⟨_, Try.underlying24, rfl⟩, by kernel_rfl⟩
theorem FO6 : FOk Try.prog 6 := ⟨_, Try.func6, by kernel_rfl, by kernel_rfl⟩
theorem Z24 : (Try.prog.info? 24).bind (·.zero) = some (.agg #[.int .i64 0, .int .i64 0, .int .i64 0]) := by kernel_rfl
theorem TI3 : TI Try.prog 3 false 1 := ⟨⟨_, Try.underlying3, rfl⟩, by kernel_rfl⟩
theorem FI24_0 : FI Try.prog 24 0 0 1 := ⟨_, _, _, Try.underlying24, rfl, rfl, TI3⟩
theorem FI24_1 : FI Try.prog 24 1 1 1 := ⟨_, _, _, Try.underlying24, rfl, rfl, TI3⟩
theorem FI24_2 : FI Try.prog 24 2 2 1 := ⟨_, _, _, Try.underlying24, rfl, rfl, TI3⟩
theorem FO19 : FOk Try.prog 19 := ⟨_, Try.func19, by kernel_rfl, by kernel_rfl⟩
theorem FO21 : FOk Try.prog 21 := ⟨_, Try.func21, by kernel_rfl, by kernel_rfl⟩
theorem FO29 : FOk Try.prog 29 := ⟨_, Try.func29, by kernel_rfl, by kernel_rfl⟩
theorem FO34 : FOk Try.prog 34 := ⟨_, Try.func34, by kernel_rfl, by kernel_rfl⟩
theorem FO25 : FOk Try.prog 25 := ⟨_, Try.func25, by kernel_rfl, by kernel_rfl⟩
theorem FO35 : FOk Try.prog 35 := ⟨_, Try.func35, by kernel_rfl, by kernel_rfl⟩
theorem FO31 : FOk Try.prog 31 := ⟨_, Try.func31, by kernel_rfl, by kernel_rfl⟩
theorem Z3 : (Try.prog.info? 3).bind (·.zero) = some (.int .i64 0) := by kernel_rfl
theorem FO30 : FOk Try.prog 30 := ⟨_, Try.func30, by kernel_rfl, by kernel_rfl⟩
theorem FO23 : FOk Try.prog 23 := ⟨_, Try.func23, by kernel_rfl, by kernel_rfl⟩
theorem FO26 : FOk Try.prog 26 := ⟨_, Try.func26, by kernel_rfl, by kernel_rfl⟩
theorem FO11 : FOk Try.prog 11 := ⟨_, Try.func11, by kernel_rfl, by kernel_rfl⟩
theorem EI24 : EI Try.prog 24 3 24 := ei_of (z := .agg #[.int .i64 0, .int .i64 0, .int .i64 0]) (by kernel_rfl) rfl (by decide) (by decide)
theorem FO20 : FOk Try.prog 20 := ⟨_, Try.func20, by kernel_rfl, by kernel_rfl⟩
theorem FO22 : FOk Try.prog 22 := ⟨_, Try.func22, by kernel_rfl, by kernel_rfl⟩
theorem FO24 : FOk Try.prog 24 := ⟨_, Try.func24, by kernel_rfl, by kernel_rfl⟩
theorem FO7 : FOk Try.prog 7 := ⟨_, Try.func7, by kernel_rfl, by kernel_rfl⟩
theorem FO9 : FOk Try.prog 9 := ⟨_, Try.func9, by kernel_rfl, by kernel_rfl⟩
theorem FO27 : FOk Try.prog 27 := ⟨_, Try.func27, by kernel_rfl, by kernel_rfl⟩
theorem FO12 : FOk Try.prog 12 := ⟨_, Try.func12, by kernel_rfl, by kernel_rfl⟩
theorem FO13 : FOk Try.prog 13 := ⟨_, Try.func13, by kernel_rfl, by kernel_rfl⟩
theorem FO17 : FOk Try.prog 17 := ⟨_, Try.func17, by kernel_rfl, by kernel_rfl⟩
theorem FO28 : FOk Try.prog 28 := ⟨_, Try.func28, by kernel_rfl, by kernel_rfl⟩
theorem FO14 : FOk Try.prog 14 := ⟨_, Try.func14, by kernel_rfl, by kernel_rfl⟩
theorem SI24 : SI Try.prog 24 [.int .i64 0, .int .i64 0, .int .i64 0] [(0, 1), (1, 1), (2, 1)] := ⟨⟨_, Try.underlying24, (.cons ⟨rfl, _, TI3⟩ (.cons ⟨rfl, _, TI3⟩ (.cons ⟨rfl, _, TI3⟩ .nil)))⟩, Z24⟩
theorem FO8 : FOk Try.prog 8 := ⟨_, Try.func8, by kernel_rfl, by kernel_rfl⟩
theorem FO15 : FOk Try.prog 15 := ⟨_, Try.func15, by kernel_rfl, by kernel_rfl⟩
theorem EQ24 (a0 : Int) (a1 : Int) (a2 : Int) (b0 : Int) (b1 : Int) (b2 : Int) : EqV Try.prog 10000 24 (.agg #[.int .i64 a0, .int .i64 a1, .int .i64 a2]) (.agg #[.int .i64 b0, .int .i64 b1, .int .i64 b2]) ((a0 == b0) && ((a1 == b1) && (a2 == b2))) := (.struct Try.underlying24 (by kernel_rfl) (.cons (by decide) TI3 (fun _ => rfl) rfl rfl rfl rfl (.int Try.underlying3) (.cons (by decide) TI3 (fun _ => rfl) rfl rfl rfl rfl (.int Try.underlying3) (.one (by decide) TI3 (fun _ => rfl) rfl rfl rfl rfl (.int Try.underlying3)))))
theorem EG24 : Try.prog.eqGuardType Try.prog.depth 24 = false := by kernel_rfl
theorem FO10 : FOk Try.prog 10 := ⟨_, Try.func10, by kernel_rfl, by kernel_rfl⟩
theorem FO16 : FOk Try.prog 16 := ⟨_, Try.func16, by kernel_rfl, by kernel_rfl⟩
theorem FO18 : FOk Try.prog 18 := ⟨_, Try.func18, by kernel_rfl, by kernel_rfl⟩
def tarrylaw10_few.f (l0 : List S23) : Option (List S23) := (if 0 ≤ mn (l0.length : Int) 98 then (if (mn (l0.length : Int) 98) ≤ (l0.length : Int) then (some ((l0.take ((mn (l0.length : Int) 98).toNat)).drop 0)) else none) else none)
def timer_may.f (a0_0 : Int) (a0_1 : Int) (a0_2 : Int) : Option (Bool) := (if a0_0 ≥ 0 then (if a0_0 ≤ 1099511627776 then (if a0_1 ≥ 1 then (if a0_1 ≤ 3 then (if a0_2 ≥ 1 then (some (decide (a0_2 ≤ 1099511627776))) else (some false)) else (some false)) else (some false)) else (some false)) else (some false))
def timer_of.f (a0 : Int) (a1 : Int) : Option (Int × Int) := (some (a0, a1))
def timer_of_1.f (a0_0 : Int) (a0_1 : Int) (a0_2 : Int) (a1_0 : Int) (a2_0 : Int) : Option (Bool) := (if a0_1 = a1_0 then (some (a0_2 == a2_0)) else (some false))
def slices_IndexFunc_api_Timer_api_Timer.l1 (k : Nat) (a1_0_0 : Int) (a1_1_0 : Int) (l0 : List S23) : Nat → Int → Option (Int)
  | 0, _ => none
  | ml1 + 1, i139 => (if i139 < (l0.length : Int) then (if 0 ≤ i139 then ((l0[i139.toNat]?).bind fun x168 => ((timer_of_1.f x168.f0 x168.f1 x168.f2 a1_0_0 a1_1_0).bind fun t171 => (if t171 = true then (some i139) else (slices_IndexFunc_api_Timer_api_Timer.l1 k a1_0_0 a1_1_0 l0 ml1 (wrap64 (i139 + 1)))))) else none) else (some (-1)))
def slices_IndexFunc_api_Timer_api_Timer.f (k : Nat) (l0 : List S23) (a1_0_0 : Int) (a1_1_0 : Int) : Option (Int) := (slices_IndexFunc_api_Timer_api_Timer.l1 k a1_0_0 a1_1_0 l0 k 0)
def slices_ContainsFunc_api_Timer_api_Timer.f (k : Nat) (l0 : List S23) (a1_0_0 : Int) (a1_1_0 : Int) : Option (Bool) := ((slices_IndexFunc_api_Timer_api_Timer.f k l0 a1_0_0 a1_1_0).bind fun t174 => (some (decide (t174 ≥ 0))))
def cmp_isNaN_int.f (a0 : Int) : Option (Bool) := (some (a0 != a0))
def cmp_Compare_int.f (a0 : Int) (a1 : Int) : Option (Int) := ((cmp_isNaN_int.f a0).bind fun t380 => ((cmp_isNaN_int.f a1).bind fun t382 => (if t380 = true then (if t382 = true then (some 0) else (some (-1))) else (if t382 = true then (some 1) else (if a0 < a1 then (some (-1)) else (if a0 > a1 then (some 1) else (some 0)))))))
def cmp_Or_int.l1 (k : Nat) (l0 : List Int) : Nat → Int → Option (Int)
  | 0, _ => none
  | ml1 + 1, i466 => (if i466 < (l0.length : Int) then (if 0 ≤ i466 then ((l0[i466.toNat]?).bind fun x492 => (if x492 = 0 then (cmp_Or_int.l1 k l0 ml1 (wrap64 (i466 + 1))) else (some x492))) else none) else (some 0))
def cmp_Or_int.f (k : Nat) (l0 : List Int) : Option (Int) := (cmp_Or_int.l1 k l0 k 0)
def timer_compare.f (k : Nat) (a0_0 : Int) (a0_1 : Int) (a0_2 : Int) (a1_0 : Int) (a1_1 : Int) (a1_2 : Int) : Option (Int) := ((cmp_Compare_int.f a0_0 a1_0).bind fun t400 => ((cmp_Compare_int.f a0_1 a1_1).bind fun t402 => ((cmp_Compare_int.f a0_2 a1_2).bind fun t404 => ((cmp_Or_int.f k ([t400, t402, t404] : List Int)).bind fun t497 => (some t497)))))
def slices_IsSortedFunc_api_Timer_api_Timer.l1 (k : Nat) (l0 : List S23) : Nat → Int → Option (Bool)
  | 0, _ => none
  | ml1 + 1, i572 => (if i572 > 0 then (if 0 ≤ i572 then ((l0[i572.toNat]?).bind fun x606 => (if 0 ≤ wrap64 (i572 - 1) then ((l0[(wrap64 (i572 - 1)).toNat]?).bind fun x608 => ((timer_compare.f k x606.f0 x606.f1 x606.f2 x608.f0 x608.f1 x608.f2).bind fun t609 => (if t609 < 0 then (some false) else (slices_IsSortedFunc_api_Timer_api_Timer.l1 k l0 ml1 (wrap64 (i572 - 1)))))) else none)) else none) else (some true))
def slices_IsSortedFunc_api_Timer_api_Timer.f (k : Nat) (l0 : List S23) : Option (Bool) := (slices_IsSortedFunc_api_Timer_api_Timer.l1 k l0 k (wrap64 ((l0.length : Int) - 1)))
def timer_Right.l1 (k : Nat) (l0 : List S23) : Nat → Int → Option (Bool)
  | 0, _ => none
  | ml1 + 1, i320 => (if i320 < (l0.length : Int) then (if 0 ≤ i320 then ((l0[i320.toNat]?).bind fun x640 => ((timer_may.f x640.f0 x640.f1 x640.f2).bind fun t644 => (if t644 = true then (if i320 ≤ (l0.length : Int) then ((timer_of.f x640.f1 x640.f2).bind fun ⟨t650, t651⟩ => ((slices_ContainsFunc_api_Timer_api_Timer.f k ((l0.take i320.toNat).drop 0) t650 t651).bind fun t655 => (if t655 = true then (some false) else (timer_Right.l1 k l0 ml1 (wrap64 (i320 + 1)))))) else none) else (some false)))) else none) else (if (l0.length : Int) ≤ 96 then ((slices_IsSortedFunc_api_Timer_api_Timer.f k l0).bind fun t664 => (some t664)) else (some false)))
def timer_Right.f (k : Nat) (l0 : List S23) : Option (Bool) := (timer_Right.l1 k l0 k 0)
def timer_parted_Timer.l1 (k : Nat) (a1_0_0 : Int) (a1_1_0 : Int) (l0 : List S23) : Nat → (List S23) → (List S23) → Int → Option (List S23 × List S23)
  | 0, _, _, _ => none
  | ml1 + 1, l869, l873, i875 => (if i875 < (l0.length : Int) then (if 0 ≤ i875 then ((l0[i875.toNat]?).bind fun x937 => ((timer_of_1.f x937.f0 x937.f1 x937.f2 a1_0_0 a1_1_0).bind fun t941 => (if t941 = true then (if (l869.length + ([x937] : List S23).length) * 24 ≤ 140737488355328 then (timer_parted_Timer.l1 k a1_0_0 a1_1_0 l0 ml1 (l869 ++ ([x937] : List S23)) l873 (wrap64 (i875 + 1))) else none) else (if (l873.length + ([x937] : List S23).length) * 24 ≤ 140737488355328 then (timer_parted_Timer.l1 k a1_0_0 a1_1_0 l0 ml1 l869 (l873 ++ ([x937] : List S23)) (wrap64 (i875 + 1))) else none)))) else none) else (some (l869, l873)))
def timer_parted_Timer.f (k : Nat) (l0 : List S23) (a1_0_0 : Int) (a1_1_0 : Int) : Option (List S23 × List S23) := (timer_parted_Timer.l1 k a1_0_0 a1_1_0 l0 k ([] : List S23) ([] : List S23) 0)
def slices_BinarySearchFunc_api_Timer_api_Timer_api_Timer.l1 (k : Nat) (a1_0 : Int) (a1_1 : Int) (a1_2 : Int) (l0 : List S23) : Nat → Int → Int → Option (Int × Bool)
  | 0, _, _ => none
  | ml1 + 1, i1013, i1014 => (if i1013 < i1014 then (if 0 ≤ wrap64 ((IntKind.u64.wrap (wrap64 (i1013 + i1014))).fdiv (2 ^ min (1 : Int).toNat IntKind.u64.bits)) then ((l0[(wrap64 ((IntKind.u64.wrap (wrap64 (i1013 + i1014))).fdiv (2 ^ min (1 : Int).toNat IntKind.u64.bits))).toNat]?).bind fun x1037 => ((timer_compare.f k x1037.f0 x1037.f1 x1037.f2 a1_0 a1_1 a1_2).bind fun t1038 => (if t1038 < 0 then (slices_BinarySearchFunc_api_Timer_api_Timer_api_Timer.l1 k a1_0 a1_1 a1_2 l0 ml1 (wrap64 ((wrap64 ((IntKind.u64.wrap (wrap64 (i1013 + i1014))).fdiv (2 ^ min (1 : Int).toNat IntKind.u64.bits))) + 1)) i1014) else (slices_BinarySearchFunc_api_Timer_api_Timer_api_Timer.l1 k a1_0 a1_1 a1_2 l0 ml1 i1013 (wrap64 ((IntKind.u64.wrap (wrap64 (i1013 + i1014))).fdiv (2 ^ min (1 : Int).toNat IntKind.u64.bits))))))) else none) else (if i1013 < (l0.length : Int) then (if 0 ≤ i1013 then ((l0[i1013.toNat]?).bind fun x1045 => ((timer_compare.f k x1045.f0 x1045.f1 x1045.f2 a1_0 a1_1 a1_2).bind fun t1046 => (some (i1013, (t1046 == 0))))) else none) else (some (i1013, false))))
def slices_BinarySearchFunc_api_Timer_api_Timer_api_Timer.f (k : Nat) (l0 : List S23) (a1_0 : Int) (a1_1 : Int) (a1_2 : Int) : Option (Int × Bool) := (slices_BinarySearchFunc_api_Timer_api_Timer_api_Timer.l1 k a1_0 a1_1 a1_2 l0 k 0 (l0.length : Int))
def slices_Insert_api_Timer_api_Timer.f (l0 : List S23) (a1 : Int) (l2 : List S23) : Option (List S23) := if 0 ≤ a1 ∧ a1 ≤ (l0.length : Int) ∧ (l0.length + l2.length) * 24 ≤ 140737488355328 then some (l0.take a1.toNat ++ l2 ++ l0.drop a1.toNat) else none
def timer_Set.f (k : Nat) (l0 : List S23) (a1_0 : Int) (a1_1 : Int) (a1_2 : Int) : Option (List S23 × Int) := ((timer_Right.f k l0).bind fun t686 => (if t686 = true then ((timer_may.f a1_0 a1_1 a1_2).bind fun t689 => (if t689 = true then ((timer_of.f a1_1 a1_2).bind fun ⟨t692, t693⟩ => ((timer_parted_Timer.f k l0 t692 t693).bind fun ⟨r954, r955⟩ => (if (r955.length : Int) = 96 then (some (([] : List S23), 7)) else ((slices_BinarySearchFunc_api_Timer_api_Timer_api_Timer.f k r955 a1_0 a1_1 a1_2).bind fun ⟨t1049, t1050⟩ => ((slices_Insert_api_Timer_api_Timer.f r955 t1049 ([(⟨a1_0, a1_1, a1_2⟩ : S23)] : List S23)).bind fun r1054 => (some (r1054, 0))))))) else (some (([] : List S23), 1)))) else (some (([] : List S23), 1))))
def timer_Clear.f (k : Nat) (l0 : List S23) (a1 : Int) (a2 : Int) : Option (List S23 × Int) := ((timer_Right.f k l0).bind fun t1076 => (if t1076 = true then ((timer_of.f a1 a2).bind fun ⟨t1079, t1080⟩ => ((timer_parted_Timer.f k l0 t1079 t1080).bind fun ⟨r1084, r1085⟩ => (some (r1085, 0)))) else (some (([] : List S23), 1))))
def timer_Due_1.f (a0_0 : Int) (a0_1 : Int) (a0_2 : Int) (a1_0 : Int) : Option (Bool) := (some (decide (a0_0 ≤ a1_0)))
def timer_parted_Timer_s17.l1 (k : Nat) (a1_0_0 : Int) (l0 : List S23) : Nat → (List S23) → (List S23) → Int → Option (List S23 × List S23)
  | 0, _, _, _ => none
  | ml1 + 1, l1287, l1291, i1293 => (if i1293 < (l0.length : Int) then (if 0 ≤ i1293 then ((l0[i1293.toNat]?).bind fun x1355 => ((timer_Due_1.f x1355.f0 x1355.f1 x1355.f2 a1_0_0).bind fun t1359 => (if t1359 = true then (if (l1287.length + ([x1355] : List S23).length) * 24 ≤ 140737488355328 then (timer_parted_Timer_s17.l1 k a1_0_0 l0 ml1 (l1287 ++ ([x1355] : List S23)) l1291 (wrap64 (i1293 + 1))) else none) else (if (l1291.length + ([x1355] : List S23).length) * 24 ≤ 140737488355328 then (timer_parted_Timer_s17.l1 k a1_0_0 l0 ml1 l1287 (l1291 ++ ([x1355] : List S23)) (wrap64 (i1293 + 1))) else none)))) else none) else (some (l1287, l1291)))
def timer_parted_Timer_s17.f (k : Nat) (l0 : List S23) (a1_0_0 : Int) : Option (List S23 × List S23) := (timer_parted_Timer_s17.l1 k a1_0_0 l0 k ([] : List S23) ([] : List S23) 0)
def timer_Due.f (k : Nat) (l0 : List S23) (a1 : Int) : Option (List S23 × List S23 × Int) := ((timer_Right.f k l0).bind fun t1110 => (if t1110 = true then ((timer_parted_Timer_s17.f k l0 a1).bind fun ⟨r1372, r1373⟩ => (some (r1372, r1373, 0))) else (some (([] : List S23), ([] : List S23), 1))))
def timer_Next.f (k : Nat) (l0 : List S23) : Option (Int × Int) := ((timer_Right.f k l0).bind fun t1401 => (if t1401 = true then (if (l0.length : Int) = 0 then (some (0, 8)) else ((l0[0]?).bind fun x1406 => (some (x1406.f0, 0)))) else (some (0, 1))))
def tarryref10_May.f (a0_0 : Int) (a0_1 : Int) (a0_2 : Int) : Option (Bool) := (if a0_0 ≥ 0 then (if a0_0 ≤ 1099511627776 then (if a0_1 ≥ 1 then (if a0_1 ≤ 3 then (if a0_2 ≥ 1 then (some (decide (a0_2 ≤ 1099511627776))) else (some false)) else (some false)) else (some false)) else (some false)) else (some false))
def tarryref10_Less.f (a0_0 : Int) (a0_1 : Int) (a0_2 : Int) (a1_0 : Int) (a1_1 : Int) (a1_2 : Int) : Option (Bool) := (if a0_0 = a1_0 then (if a0_1 = a1_1 then (some (decide (a0_2 < a1_2))) else (some (decide (a0_1 < a1_1)))) else (some (decide (a0_0 < a1_0))))
def tarryref10_Right.l5 (k : Nat) (rec_l3 : Int → Option (Bool)) (i2550 : Int) (l0 : List S23) (x2967 : S23) : Nat → Int → Option (Bool)
  | 0, _ => none
  | ml5 + 1, i3023 => (if i3023 < (((l0.take i2550.toNat).drop 0).length : Int) then (if 0 ≤ i3023 then ((((l0.take i2550.toNat).drop 0)[i3023.toNat]?).bind fun x3085 => ((tarryref10_Less.f x3085.f0 x3085.f1 x3085.f2 x2967.f0 x2967.f1 x2967.f2).bind fun t3095 => (if t3095 = true then (if x3085.f1 = x2967.f1 then (if x3085.f2 = x2967.f2 then (some false) else (tarryref10_Right.l5 k rec_l3 i2550 l0 x2967 ml5 (wrap64 (i3023 + 1)))) else (tarryref10_Right.l5 k rec_l3 i2550 l0 x2967 ml5 (wrap64 (i3023 + 1)))) else (some false)))) else none) else (rec_l3 (wrap64 (i2550 + 1))))
def tarryref10_Right.l3 (k : Nat) (l0 : List S23) : Nat → Int → Option (Bool)
  | 0, _ => none
  | ml3 + 1, i2550 => (if i2550 < (l0.length : Int) then (if 0 ≤ i2550 then ((l0[i2550.toNat]?).bind fun x2967 => ((tarryref10_May.f x2967.f0 x2967.f1 x2967.f2).bind fun t2980 => (if t2980 = true then (if i2550 ≤ (l0.length : Int) then (tarryref10_Right.l5 k (tarryref10_Right.l3 k l0 ml3) i2550 l0 x2967 k 0) else none) else (some false)))) else none) else (some (decide ((l0.length : Int) ≤ 96))))
def tarryref10_Right.f (k : Nat) (l0 : List S23) : Option (Bool) := (tarryref10_Right.l3 k l0 k 0)
def tarrylaw10_alive.f (k : Nat)  : Option (Bool) := ((timer_Set.f k [] 5 2 1).bind fun ⟨r3108, t3109⟩ => ((timer_Due.f k r3108 5).bind fun ⟨r3113, r3114, t3115⟩ => (if t3109 = 0 then (if t3115 = 0 then (if (r3113.length : Int) = 1 then ((r3113[0]?).bind fun x3137 => (some (x3137.f0 == 5))) else (some false)) else (some false)) else (some false))))
def tarryref10_Clear.l1 (k : Nat) (a1 : Int) (a2 : Int) (l0 : List S23) : Nat → (List S23) → Int → Option (List S23)
  | 0, _, _ => none
  | ml1 + 1, l3396, i3397 => (if i3397 < (l0.length : Int) then (if 0 ≤ i3397 then ((l0[i3397.toNat]?).bind fun x3471 => (if x3471.f1 = a1 then (if x3471.f2 = a2 then (tarryref10_Clear.l1 k a1 a2 l0 ml1 l3396 (wrap64 (i3397 + 1))) else (if (l3396.length + ([x3471] : List S23).length) * 24 ≤ 140737488355328 then (tarryref10_Clear.l1 k a1 a2 l0 ml1 (l3396 ++ ([x3471] : List S23)) (wrap64 (i3397 + 1))) else none)) else (if (l3396.length + ([x3471] : List S23).length) * 24 ≤ 140737488355328 then (tarryref10_Clear.l1 k a1 a2 l0 ml1 (l3396 ++ ([x3471] : List S23)) (wrap64 (i3397 + 1))) else none))) else none) else (some l3396))
def tarryref10_Clear.f (k : Nat) (l0 : List S23) (a1 : Int) (a2 : Int) : Option (List S23) := (tarryref10_Clear.l1 k a1 a2 l0 k ([] : List S23) 0)
def tarryref10_Same.l1 (k : Nat) (l0 : List S23) (l1 : List S23) : Nat → Int → Option (Bool)
  | 0, _ => none
  | ml1 + 1, i3555 => (if i3555 < (l0.length : Int) then (if 0 ≤ i3555 then ((l0[i3555.toNat]?).bind fun x3578 => ((l1[i3555.toNat]?).bind fun x3579 => (if (((x3578.f0 == x3579.f0) && ((x3578.f1 == x3579.f1) && (x3578.f2 == x3579.f2)))) = true then (tarryref10_Same.l1 k l0 l1 ml1 (wrap64 (i3555 + 1))) else (some false)))) else none) else (some true))
def tarryref10_Same.f (k : Nat) (l0 : List S23) (l1 : List S23) : Option (Bool) := (if (l0.length : Int) = (l1.length : Int) then (tarryref10_Same.l1 k l0 l1 k 0) else (some false))
def tarryref10_Due.l1 (k : Nat) (a1 : Int) (a2 : Bool) (l0 : List S23) : Nat → (List S23) → Int → Option (List S23)
  | 0, _, _ => none
  | ml1 + 1, l3708, i3709 => (if i3709 < (l0.length : Int) then (if 0 ≤ i3709 then ((l0[i3709.toNat]?).bind fun x3756 => (if (decide (x3756.f0 ≤ a1)) = a2 then (if (l3708.length + ([x3756] : List S23).length) * 24 ≤ 140737488355328 then (tarryref10_Due.l1 k a1 a2 l0 ml1 (l3708 ++ ([x3756] : List S23)) (wrap64 (i3709 + 1))) else none) else (tarryref10_Due.l1 k a1 a2 l0 ml1 l3708 (wrap64 (i3709 + 1))))) else none) else (some l3708))
def tarryref10_Due.f (k : Nat) (l0 : List S23) (a1 : Int) (a2 : Bool) : Option (List S23) := (tarryref10_Due.l1 k a1 a2 l0 k ([] : List S23) 0)
def tarryref10_Set.l1 (k : Nat) (a1_0 : Int) (a1_1 : Int) (a1_2 : Int) (r4250 : List S23) : Nat → (List S23) → Bool → Int → Option (List S23)
  | 0, _, _, _ => none
  | ml1 + 1, l4327, q4328, i4329 => (if i4329 < (r4250.length : Int) then (if 0 ≤ i4329 then ((r4250[i4329.toNat]?).bind fun x4483 => (if q4328 = true then (if (l4327.length + ([x4483] : List S23).length) * 24 ≤ 140737488355328 then (tarryref10_Set.l1 k a1_0 a1_1 a1_2 r4250 ml1 (l4327 ++ ([x4483] : List S23)) true (wrap64 (i4329 + 1))) else none) else ((tarryref10_Less.f a1_0 a1_1 a1_2 x4483.f0 x4483.f1 x4483.f2).bind fun t4508 => (if t4508 = true then (if (l4327.length + ([(⟨a1_0, a1_1, a1_2⟩ : S23)] : List S23).length) * 24 ≤ 140737488355328 then (if ((l4327 ++ ([(⟨a1_0, a1_1, a1_2⟩ : S23)] : List S23)).length + ([x4483] : List S23).length) * 24 ≤ 140737488355328 then (tarryref10_Set.l1 k a1_0 a1_1 a1_2 r4250 ml1 ((l4327 ++ ([(⟨a1_0, a1_1, a1_2⟩ : S23)] : List S23)) ++ ([x4483] : List S23)) true (wrap64 (i4329 + 1))) else none) else none) else (if (l4327.length + ([x4483] : List S23).length) * 24 ≤ 140737488355328 then (tarryref10_Set.l1 k a1_0 a1_1 a1_2 r4250 ml1 (l4327 ++ ([x4483] : List S23)) false (wrap64 (i4329 + 1))) else none))))) else none) else (if q4328 = true then (some l4327) else (if (l4327.length + ([(⟨a1_0, a1_1, a1_2⟩ : S23)] : List S23).length) * 24 ≤ 140737488355328 then (some (l4327 ++ ([(⟨a1_0, a1_1, a1_2⟩ : S23)] : List S23))) else none)))
def tarryref10_Set.f (k : Nat) (l0 : List S23) (a1_0 : Int) (a1_1 : Int) (a1_2 : Int) : Option (List S23) := ((tarryref10_Clear.f k l0 a1_1 a1_2).bind fun r4250 => (tarryref10_Set.l1 k a1_0 a1_1 a1_2 r4250 k ([] : List S23) false 0))
def tarrylaw10_TimerSets.j4 (k : Nat) (a1_0 : Int) (a1_1 : Int) (a1_2 : Int) (r1060 : List S23) (r13 : List S23) (t1061 : Int)  : Option (Bool) := ((tarryref10_May.f a1_0 a1_1 a1_2).bind fun t5600 => (if t5600 = true then ((tarryref10_Clear.f k r13 a1_1 a1_2).bind fun r5615 => (if (r5615.length : Int) = 96 then (if t1061 = 7 then (some ((r1060.length : Int) == 0)) else none) else (if t1061 = 0 then ((tarryref10_Set.f k r13 a1_0 a1_1 a1_2).bind fun r5637 => ((tarryref10_Same.f k r1060 r5637).bind fun t5641 => (some t5641))) else none))) else (if t1061 = 1 then (some ((r1060.length : Int) == 0)) else none)))
def tarrylaw10_TimerSets.j2 (k : Nat) (a1_0 : Int) (a1_1 : Int) (a1_2 : Int) (a2 : Int) (a3 : Int) (a4 : Int) (r1060 : List S23) (r1092 : List S23) (r13 : List S23) (r1381 : List S23) (r1382 : List S23) (t1061 : Int) (t1093 : Int) (t1383 : Int) (t1409 : Int) (t1410 : Int) (q4982 : Bool) : Option (Bool) := (if q4982 = true then (if t1061 = 1 then (if t1093 = 1 then (if t1383 = 1 then (if t1410 = 1 then (some ((wrap64 ((wrap64 ((wrap64 ((wrap64 ((r1060.length : Int) + (r1092.length : Int))) + (r1381.length : Int))) + (r1382.length : Int))) + t1409)) == 0)) else none) else none) else none) else none) else (if t1093 = 0 then ((tarryref10_Clear.f k r13 a2 a3).bind fun r5079 => ((tarryref10_Same.f k r1092 r5079).bind fun t5083 => (if t5083 = true then (if t1383 = 0 then ((tarryref10_Due.f k r13 a4 true).bind fun r5088 => ((tarryref10_Same.f k r1381 r5088).bind fun t5092 => (if t5092 = true then ((tarryref10_Due.f k r13 a4 false).bind fun r5095 => ((tarryref10_Same.f k r1382 r5095).bind fun t5099 => (if t5099 = true then (if (r13.length : Int) = 0 then (if t1410 = 8 then (if t1409 = 0 then (if (r13.length : Int) > 0 then (if t1410 = 0 then ((r13[0]?).bind fun x5571 => (if t1409 = x5571.f0 then (tarrylaw10_TimerSets.j4 k a1_0 a1_1 a1_2 r1060 r13 t1061) else none)) else none) else (tarrylaw10_TimerSets.j4 k a1_0 a1_1 a1_2 r1060 r13 t1061)) else none) else none) else (if (r13.length : Int) > 0 then (if t1410 = 0 then ((r13[0]?).bind fun x5580 => (if t1409 = x5580.f0 then (tarrylaw10_TimerSets.j4 k a1_0 a1_1 a1_2 r1060 r13 t1061) else none)) else none) else (tarrylaw10_TimerSets.j4 k a1_0 a1_1 a1_2 r1060 r13 t1061))) else none))) else none))) else none) else none))) else none))
def tarrylaw10_TimerSets.f (k : Nat) (l0 : List S23) (a1_0 : Int) (a1_1 : Int) (a1_2 : Int) (a2 : Int) (a3 : Int) (a4 : Int) : Option (Bool) := ((tarrylaw10_few.f l0).bind fun r13 => ((timer_Set.f k r13 a1_0 a1_1 a1_2).bind fun ⟨r1060, t1061⟩ => ((timer_Clear.f k r13 a2 a3).bind fun ⟨r1092, t1093⟩ => ((timer_Due.f k r13 a4).bind fun ⟨r1381, r1382, t1383⟩ => ((timer_Next.f k r13).bind fun ⟨t1409, t1410⟩ => ((timer_Right.f k r13).bind fun t3162 => ((tarryref10_Right.f k r13).bind fun t3164 => (if t3162 = t3164 then ((tarrylaw10_alive.f k).bind fun t3168 => (if t3168 = true then ((tarryref10_Right.f k r13).bind fun t4979 => (if t4979 = true then (tarrylaw10_TimerSets.j2 k a1_0 a1_1 a1_2 a2 a3 a4 r1060 r1092 r13 r1381 r1382 t1061 t1093 t1383 t1409 t1410 false) else (tarrylaw10_TimerSets.j2 k a1_0 a1_1 a1_2 a2 a3 a4 r1060 r1092 r13 r1381 r1382 t1061 t1093 t1383 t1409 t1410 true))) else none)) else none))))))))
/-- THE ONE PURE STATEMENT. -/
def tarrylaw10_TimerSets.Pure : Prop := ∀ (l0 : List S23) (a1_0 : Int) (a1_1 : Int) (a1_2 : Int) (a2 : Int) (a3 : Int) (a4 : Int), allOk ok23 l0 → (Lit.int .i64 a1_0).wf = true → (Lit.int .i64 a1_1).wf = true → (Lit.int .i64 a1_2).wf = true → (Lit.int .i64 a2).wf = true → (Lit.int .i64 a3).wf = true → (Lit.int .i64 a4).wf = true → ∃ k, tarrylaw10_TimerSets.f k l0 a1_0 a1_1 a1_2 a2 a3 a4 = some true

end Go.Proofs.Ytmcfgahjchkgaaa.PTimerSets
