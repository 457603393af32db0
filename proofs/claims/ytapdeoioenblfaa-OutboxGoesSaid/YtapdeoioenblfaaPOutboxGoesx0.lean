/- Written by a program of this repo: what the program's functions do, each as a Lean function, shown of the loaded code; or a statement's row over that; no condition of its own. -/
import Derived.Test.YtapdeoioenblfaaProg
import Derived.Test.YtapdeoioenblfaaV15
namespace Go.Proofs.Ytapdeoioenblfaa.POutboxGoes
open Go Go.RowKit Go.Proofs.YtapdeoioenblfaaV
set_option linter.unusedVariables false
set_option linter.unusedSimpArgs false

structure S33 where
  f0 : Int
  f1 : Int
  f2 : Int
  f3 : Int
def enc33 (x : S33) : List Value := [.int .i64 x.f0, .int .i64 x.f1, .int .i64 x.f2, .int .i64 x.f3]
theorem enc33_ok (a : S33) : (enc33 a).length = 4 ∧ ∀ u ∈ enc33 a, u.oneCell' = true := ⟨rfl, by intro u hu; simp only [enc33, List.mem_cons, List.not_mem_nil, or_false] at hu; rcases hu with rfl | rfl | rfl | rfl <;> rfl⟩
def ok33 (x : S33) : Prop := (Lit.int .i64 x.f0).wf = true ∧ (Lit.int .i64 x.f1).wf = true ∧ (Lit.int .i64 x.f2).wf = true ∧ (Lit.int .i64 x.f3).wf = true
theorem VC.join0 {E : Env} {P : Program} {Q : Exit → Act → World → Prop} {s : St}  {c1 c2 : Code} (I : St) (F : Prop) (hx : VC P E c1 (Exit.then (fun a w => F ∧ Inv E (I) a w) Q) s) (hy : F → VC P E c2 Q (I)) : VC P E (.seq c1 c2) Q s :=
  fun a w hi => wpIn_seq (Code.wpIn_mono (fun e a w h => by
    cases e <;> first | exact h | (obtain ⟨hf, hi⟩ := h; exact hy  hf a w hi)) (hx a w hi))
theorem VN.meet0 {E : Env} {Q : Exit → Act → World → Prop} {s : St}  {I : St} {F : Prop}  (bs rs : List Nat) (hf : F) (hl : Le s (I) bs rs) : VN E (Exit.then (fun a w => F ∧ Inv E (I) a w) Q) s :=
  fun a w hi => ⟨hf, hi.le hl⟩
theorem VC.join1 {E : Env} {P : Program} {Q : Exit → Act → World → Prop} {s : St} {α0 : Type} {c1 c2 : Code} (I : α0 → St) (F : α0 → Prop) (hx : VC P E c1 (Exit.then (fun a w => ∃ (x0 : α0), F x0 ∧ Inv E (I x0) a w) Q) s) (hy : ∀ (x0 : α0), F x0 → VC P E c2 Q (I x0)) : VC P E (.seq c1 c2) Q s :=
  fun a w hi => wpIn_seq (Code.wpIn_mono (fun e a w h => by
    cases e <;> first | exact h | (obtain ⟨x0, hf, hi⟩ := h; exact hy x0 hf a w hi)) (hx a w hi))
theorem VN.meet1 {E : Env} {Q : Exit → Act → World → Prop} {s : St} {α0 : Type} {I : α0 → St} {F : α0 → Prop} (x0 : α0) (bs rs : List Nat) (hf : F x0) (hl : Le s (I x0) bs rs) : VN E (Exit.then (fun a w => ∃ (x0 : α0), F x0 ∧ Inv E (I x0) a w) Q) s :=
  fun a w hi => ⟨x0, hf, hi.le hl⟩
theorem VC.join2 {E : Env} {P : Program} {Q : Exit → Act → World → Prop} {s : St} {α0 : Type} {α1 : Type} {c1 c2 : Code} (I : α0 → α1 → St) (F : α0 → α1 → Prop) (hx : VC P E c1 (Exit.then (fun a w => ∃ (x0 : α0) (x1 : α1), F x0 x1 ∧ Inv E (I x0 x1) a w) Q) s) (hy : ∀ (x0 : α0) (x1 : α1), F x0 x1 → VC P E c2 Q (I x0 x1)) : VC P E (.seq c1 c2) Q s :=
  fun a w hi => wpIn_seq (Code.wpIn_mono (fun e a w h => by
    cases e <;> first | exact h | (obtain ⟨x0, x1, hf, hi⟩ := h; exact hy x0 x1 hf a w hi)) (hx a w hi))
theorem VN.meet2 {E : Env} {Q : Exit → Act → World → Prop} {s : St} {α0 : Type} {α1 : Type} {I : α0 → α1 → St} {F : α0 → α1 → Prop} (x0 : α0) (x1 : α1) (bs rs : List Nat) (hf : F x0 x1) (hl : Le s (I x0 x1) bs rs) : VN E (Exit.then (fun a w => ∃ (x0 : α0) (x1 : α1), F x0 x1 ∧ Inv E (I x0 x1) a w) Q) s :=
  fun a w hi => ⟨x0, x1, hf, hi.le hl⟩
theorem VC.loop1 {E : Env} {P : Program} {Q : Exit → Act → World → Prop} {s : St} {α0 : Type} {c : Code} (I : α0 → St) (F : Nat → α0 → Prop) (k : Nat) (x0 : α0) (bs rs : List Nat) (hf : F k x0) (hl : Le s (I x0) bs rs) (hz : ∀ (x0 : α0), ¬ F 0 x0) (h : ∀ k, (∀ (x0 : α0), F k x0 → VLp P E c Q k (I x0)) → ∀ (x0 : α0), F (k + 1) x0 → VC P E c (Exit.then (Code.roundsIn E.F 0 P c Q k) Q) (I x0)) : VC P E (.loop c) Q s := by
  have key : ∀ k (x0 : α0), F k x0 → VLp P E c Q k (I x0) := by
    intro k
    induction k with
    | zero => intro x0 hf; exact absurd hf (hz x0)
    | succ k ih => intro x0 hf; exact VLp.succ (h k ih x0 hf)
  exact fun a w hi => wpIn_loop_rounds k (key k x0 hf a w (hi.le hl))
theorem VC.loop2 {E : Env} {P : Program} {Q : Exit → Act → World → Prop} {s : St} {α0 : Type} {α1 : Type} {c : Code} (I : α0 → α1 → St) (F : Nat → α0 → α1 → Prop) (k : Nat) (x0 : α0) (x1 : α1) (bs rs : List Nat) (hf : F k x0 x1) (hl : Le s (I x0 x1) bs rs) (hz : ∀ (x0 : α0) (x1 : α1), ¬ F 0 x0 x1) (h : ∀ k, (∀ (x0 : α0) (x1 : α1), F k x0 x1 → VLp P E c Q k (I x0 x1)) → ∀ (x0 : α0) (x1 : α1), F (k + 1) x0 x1 → VC P E c (Exit.then (Code.roundsIn E.F 0 P c Q k) Q) (I x0 x1)) : VC P E (.loop c) Q s := by
  have key : ∀ k (x0 : α0) (x1 : α1), F k x0 x1 → VLp P E c Q k (I x0 x1) := by
    intro k
    induction k with
    | zero => intro x0 x1 hf; exact absurd hf (hz x0 x1)
    | succ k ih => intro x0 x1 hf; exact VLp.succ (h k ih x0 x1 hf)
  exact fun a w hi => wpIn_loop_rounds k (key k x0 x1 hf a w (hi.le hl))
theorem VC.loop3 {E : Env} {P : Program} {Q : Exit → Act → World → Prop} {s : St} {α0 : Type} {α1 : Type} {α2 : Type} {c : Code} (I : α0 → α1 → α2 → St) (F : Nat → α0 → α1 → α2 → Prop) (k : Nat) (x0 : α0) (x1 : α1) (x2 : α2) (bs rs : List Nat) (hf : F k x0 x1 x2) (hl : Le s (I x0 x1 x2) bs rs) (hz : ∀ (x0 : α0) (x1 : α1) (x2 : α2), ¬ F 0 x0 x1 x2) (h : ∀ k, (∀ (x0 : α0) (x1 : α1) (x2 : α2), F k x0 x1 x2 → VLp P E c Q k (I x0 x1 x2)) → ∀ (x0 : α0) (x1 : α1) (x2 : α2), F (k + 1) x0 x1 x2 → VC P E c (Exit.then (Code.roundsIn E.F 0 P c Q k) Q) (I x0 x1 x2)) : VC P E (.loop c) Q s := by
  have key : ∀ k (x0 : α0) (x1 : α1) (x2 : α2), F k x0 x1 x2 → VLp P E c Q k (I x0 x1 x2) := by
    intro k
    induction k with
    | zero => intro x0 x1 x2 hf; exact absurd hf (hz x0 x1 x2)
    | succ k ih => intro x0 x1 x2 hf; exact VLp.succ (h k ih x0 x1 x2 hf)
  exact fun a w hi => wpIn_loop_rounds k (key k x0 x1 x2 hf a w (hi.le hl))
theorem VC.loop5 {E : Env} {P : Program} {Q : Exit → Act → World → Prop} {s : St} {α0 : Type} {α1 : Type} {α2 : Type} {α3 : Type} {α4 : Type} {c : Code} (I : α0 → α1 → α2 → α3 → α4 → St) (F : Nat → α0 → α1 → α2 → α3 → α4 → Prop) (k : Nat) (x0 : α0) (x1 : α1) (x2 : α2) (x3 : α3) (x4 : α4) (bs rs : List Nat) (hf : F k x0 x1 x2 x3 x4) (hl : Le s (I x0 x1 x2 x3 x4) bs rs) (hz : ∀ (x0 : α0) (x1 : α1) (x2 : α2) (x3 : α3) (x4 : α4), ¬ F 0 x0 x1 x2 x3 x4) (h : ∀ k, (∀ (x0 : α0) (x1 : α1) (x2 : α2) (x3 : α3) (x4 : α4), F k x0 x1 x2 x3 x4 → VLp P E c Q k (I x0 x1 x2 x3 x4)) → ∀ (x0 : α0) (x1 : α1) (x2 : α2) (x3 : α3) (x4 : α4), F (k + 1) x0 x1 x2 x3 x4 → VC P E c (Exit.then (Code.roundsIn E.F 0 P c Q k) Q) (I x0 x1 x2 x3 x4)) : VC P E (.loop c) Q s := by
  have key : ∀ k (x0 : α0) (x1 : α1) (x2 : α2) (x3 : α3) (x4 : α4), F k x0 x1 x2 x3 x4 → VLp P E c Q k (I x0 x1 x2 x3 x4) := by
    intro k
    induction k with
    | zero => intro x0 x1 x2 x3 x4 hf; exact absurd hf (hz x0 x1 x2 x3 x4)
    | succ k ih => intro x0 x1 x2 x3 x4 hf; exact VLp.succ (h k ih x0 x1 x2 x3 x4 hf)
  exact fun a w hi => wpIn_loop_rounds k (key k x0 x1 x2 x3 x4 hf a w (hi.le hl))
theorem VC.stop0 {E : Env} {P : Program} {Q : Exit → Act → World → Prop} {s : St}  {c1 : Code} (I : St) (F : Prop) (hx : VC P E c1 (Exit.then (fun a w => F ∧ Inv E (I) a w) Q) s) (hy : F → VN E Q (I)) : VC P E c1 Q s :=
  fun a w hi => Code.wpIn_mono (fun e a w h => by
    cases e <;> first | exact h | (obtain ⟨hf, hi⟩ := h; exact hy  hf a w hi)) (hx a w hi)
theorem VC.stop1 {E : Env} {P : Program} {Q : Exit → Act → World → Prop} {s : St} {α0 : Type} {c1 : Code} (I : α0 → St) (F : α0 → Prop) (hx : VC P E c1 (Exit.then (fun a w => ∃ (x0 : α0), F x0 ∧ Inv E (I x0) a w) Q) s) (hy : ∀ (x0 : α0), F x0 → VN E Q (I x0)) : VC P E c1 Q s :=
  fun a w hi => Code.wpIn_mono (fun e a w h => by
    cases e <;> first | exact h | (obtain ⟨x0, hf, hi⟩ := h; exact hy x0 hf a w hi)) (hx a w hi)
theorem VC.stop2 {E : Env} {P : Program} {Q : Exit → Act → World → Prop} {s : St} {α0 : Type} {α1 : Type} {c1 : Code} (I : α0 → α1 → St) (F : α0 → α1 → Prop) (hx : VC P E c1 (Exit.then (fun a w => ∃ (x0 : α0) (x1 : α1), F x0 x1 ∧ Inv E (I x0 x1) a w) Q) s) (hy : ∀ (x0 : α0) (x1 : α1), F x0 x1 → VN E Q (I x0 x1)) : VC P E c1 Q s :=
  fun a w hi => Code.wpIn_mono (fun e a w h => by
    cases e <;> first | exact h | (obtain ⟨x0, x1, hf, hi⟩ := h; exact hy x0 x1 hf a w hi)) (hx a w hi)
theorem TI25 : TI Try.prog 25 true 2 := ⟨⟨_, Try.underlying25, rfl⟩, by kernel_rfl⟩
theorem Z25 : (Try.prog.info? 25).bind (·.zero) = some (.agg #[.int .i64 0, .slice none 0 0]) := by kernel_rfl
theorem ZL25 : (.agg #[.int .i64 0, .slice none 0 0] : Value).cells.toList = [.int .i64 0, .slice none 0 0] := rfl
theorem TI3 : TI Try.prog 3 false 1 := ⟨⟨_, Try.underlying3, rfl⟩, by kernel_rfl⟩
theorem FI25_0 : FI Try.prog 25 0 0 1 := ⟨_, _, _, Try.underlying25, rfl, rfl, TI3⟩
theorem TI23 : TI Try.prog 23 false 1 := ⟨⟨_, Try.underlying23, rfl⟩, by kernel_rfl⟩
theorem FI25_1 : FI Try.prog 25 1 1 1 := ⟨_, _, _, Try.underlying25, rfl, rfl, TI23⟩
theorem TI34 : TI Try.prog 34 true 4 := ⟨⟨_, Try.underlying34, rfl⟩, by kernel_rfl⟩
theorem SI25 : SI Try.prog 25 [.int .i64 0, .slice none 0 0] [(0, 1), (1, 1)] := ⟨⟨_, Try.underlying25, (.cons ⟨rfl, _, TI3⟩ (.cons ⟨rfl, _, TI23⟩ .nil))⟩, Z25⟩
theorem FO10 : FOk Try.prog 10 := ⟨_, Try.func10, by kernel_rfl, by kernel_rfl⟩
theorem Z34 : (Try.prog.info? 34).bind (·.zero) = some (.agg #[.int .i64 0, .int .i64 0, .int .i64 0, .int .i64 0]) := by kernel_rfl
theorem ZL34 : (.agg #[.int .i64 0, .int .i64 0, .int .i64 0, .int .i64 0] : Value).cells.toList = [.int .i64 0, .int .i64 0, .int .i64 0, .int .i64 0] := rfl
theorem FI34_0 : FI Try.prog 34 0 0 1 := ⟨_, _, _, Try.underlying34, rfl, rfl, TI3⟩
theorem FO22 : FOk Try.prog 22 := ⟨_, Try.func22, by kernel_rfl, by kernel_rfl⟩
theorem FI34_2 : FI Try.prog 34 2 2 1 := ⟨_, _, _, Try.underlying34, rfl, rfl, TI3⟩
theorem FI34_1 : FI Try.prog 34 1 1 1 := ⟨_, _, _, Try.underlying34, rfl, rfl, TI3⟩
theorem FO21 : FOk Try.prog 21 := ⟨_, Try.func21, by kernel_rfl, by kernel_rfl⟩
theorem FI34_3 : FI Try.prog 34 3 3 1 := ⟨_, _, _, Try.underlying34, rfl, rfl, TI3⟩
theorem FO23 : FOk Try.prog 23 := ⟨_, Try.func23, by kernel_rfl, by kernel_rfl⟩
theorem FO25 : FOk Try.prog 25 := ⟨_, Try.func25, by kernel_rfl, by kernel_rfl⟩
theorem FO33 : FOk Try.prog 33 := ⟨_, Try.func33, by kernel_rfl, by kernel_rfl⟩
theorem FO32 : FOk Try.prog 32 := ⟨_, Try.func32, by kernel_rfl, by kernel_rfl⟩
theorem FO24 : FOk Try.prog 24 := ⟨_, Try.func24, by kernel_rfl, by kernel_rfl⟩
theorem FO8 : FOk Try.prog 8 := ⟨_, Try.func8, by kernel_rfl, by kernel_rfl⟩
theorem EI34 : EI Try.prog 34 4 32 := ei_of (z := .agg #[.int .i64 0, .int .i64 0, .int .i64 0, .int .i64 0]) (by kernel_rfl) rfl (by decide) (by decide)
theorem FO26 : FOk Try.prog 26 := ⟨_, Try.func26, by kernel_rfl, by kernel_rfl⟩
theorem SI34 : SI Try.prog 34 [.int .i64 0, .int .i64 0, .int .i64 0, .int .i64 0] [(0, 1), (1, 1), (2, 1), (3, 1)] := ⟨⟨_, Try.underlying34, (.cons ⟨rfl, _, TI3⟩ (.cons ⟨rfl, _, TI3⟩ (.cons ⟨rfl, _, TI3⟩ (.cons ⟨rfl, _, TI3⟩ .nil))))⟩, Z34⟩
theorem FO5 : FOk Try.prog 5 := ⟨_, Try.func5, by kernel_rfl, by kernel_rfl⟩
theorem FO27 : FOk Try.prog 27 := ⟨_, Try.func27, by kernel_rfl, by kernel_rfl⟩
theorem FO29 : FOk Try.prog 29 := ⟨_, Try.func29, by kernel_rfl, by kernel_rfl⟩
theorem FO28 : FOk Try.prog 28 := ⟨_, Try.func28, by kernel_rfl, by kernel_rfl⟩
theorem FO6 : FOk Try.prog 6 := ⟨_, Try.func6, by kernel_rfl, by kernel_rfl⟩
theorem FO11 : FOk Try.prog 11 := ⟨_, Try.func11, by kernel_rfl, by kernel_rfl⟩
theorem Z23 : (Try.prog.info? 23).bind (·.zero) = some (.slice none 0 0) := by kernel_rfl
theorem ZL23 : (.slice none 0 0 : Value).cells.toList = [.slice none 0 0] := rfl
theorem FO30 : FOk Try.prog 30 := ⟨_, Try.func30, by kernel_rfl, by kernel_rfl⟩
theorem FO34 : FOk Try.prog 34 := ⟨_, Try.func34, by kernel_rfl, by kernel_rfl⟩
theorem FO7 : FOk Try.prog 7 := ⟨_, Try.func7, by kernel_rfl, by kernel_rfl⟩
theorem Z46 : (Try.prog.info? 46).bind (·.zero) = some (.agg #[.int .i64 0, .slice none 0 0, .int .i64 0, .int .i64 0]) := by kernel_rfl
theorem ZL46 : (.agg #[.int .i64 0, .slice none 0 0, .int .i64 0, .int .i64 0] : Value).cells.toList = [.int .i64 0, .slice none 0 0, .int .i64 0, .int .i64 0] := rfl
theorem FO31 : FOk Try.prog 31 := ⟨_, Try.func31, by kernel_rfl, by kernel_rfl⟩
theorem FO13 : FOk Try.prog 13 := ⟨_, Try.func13, by kernel_rfl, by kernel_rfl⟩
theorem TI30 : TI Try.prog 30 false 1 := ⟨⟨_, Try.underlying30, rfl⟩, by kernel_rfl⟩
theorem SI46 : SI Try.prog 46 [.int .i64 0, .slice none 0 0, .int .i64 0, .int .i64 0] [(0, 2), (2, 1), (3, 1)] := ⟨⟨_, Try.underlying46, (.cons ⟨rfl, _, TI25⟩ (.cons ⟨rfl, _, TI3⟩ (.cons ⟨rfl, _, TI30⟩ .nil)))⟩, Z46⟩
theorem TI46 : TI Try.prog 46 true 4 := ⟨⟨_, Try.underlying46, rfl⟩, by kernel_rfl⟩
theorem FO15 : FOk Try.prog 15 := ⟨_, Try.func15, by kernel_rfl, by kernel_rfl⟩
theorem FO12 : FOk Try.prog 12 := ⟨_, Try.func12, by kernel_rfl, by kernel_rfl⟩
theorem FI46_2 : FI Try.prog 46 2 3 1 := ⟨_, _, _, Try.underlying46, rfl, rfl, TI30⟩
theorem FI46_1 : FI Try.prog 46 1 2 1 := ⟨_, _, _, Try.underlying46, rfl, rfl, TI3⟩
theorem FI46_0 : FI Try.prog 46 0 0 2 := ⟨_, _, _, Try.underlying46, rfl, rfl, TI25⟩
theorem EQ34 (a0 : Int) (a1 : Int) (a2 : Int) (a3 : Int) (b0 : Int) (b1 : Int) (b2 : Int) (b3 : Int) : EqV Try.prog 10000 34 (.agg #[.int .i64 a0, .int .i64 a1, .int .i64 a2, .int .i64 a3]) (.agg #[.int .i64 b0, .int .i64 b1, .int .i64 b2, .int .i64 b3]) ((a0 == b0) && ((a1 == b1) && ((a2 == b2) && (a3 == b3)))) := (.struct Try.underlying34 (by kernel_rfl) (.cons (by decide) TI3 (fun _ => rfl) rfl rfl rfl rfl (.int Try.underlying3) (.cons (by decide) TI3 (fun _ => rfl) rfl rfl rfl rfl (.int Try.underlying3) (.cons (by decide) TI3 (fun _ => rfl) rfl rfl rfl rfl (.int Try.underlying3) (.one (by decide) TI3 (fun _ => rfl) rfl rfl rfl rfl (.int Try.underlying3))))))
theorem EG34 : Try.prog.eqGuardType Try.prog.depth 34 = false := by kernel_rfl
theorem FO17 : FOk Try.prog 17 := ⟨_, Try.func17, by kernel_rfl, by kernel_rfl⟩
theorem FO14 : FOk Try.prog 14 := ⟨_, Try.func14, by kernel_rfl, by kernel_rfl⟩
theorem FO9 : FOk Try.prog 9 := ⟨_, Try.func9, by kernel_rfl, by kernel_rfl⟩
theorem FO16 : FOk Try.prog 16 := ⟨_, Try.func16, by kernel_rfl, by kernel_rfl⟩
theorem FO18 : FOk Try.prog 18 := ⟨_, Try.func18, by kernel_rfl, by kernel_rfl⟩
theorem FO19 : FOk Try.prog 19 := ⟨_, Try.func19, by kernel_rfl, by kernel_rfl⟩
theorem FO20 : FOk Try.prog 20 := ⟨_, Try.func20, by kernel_rfl, by kernel_rfl⟩
def tarrylaw14_few.f (a0_0 : Int) (l0_1 : List S33) : Option (Int × List S33) := (if 0 ≤ mn (l0_1.length : Int) 98 then (if (mn (l0_1.length : Int) 98) ≤ (l0_1.length : Int) then (some (a0_0, ((l0_1.take ((mn (l0_1.length : Int) 98).toNat)).drop 0))) else none) else none)
def outbox_number.f (a0 : Int) : Option (Bool) := (if a0 ≥ 1 then (some (decide (a0 ≤ 1099511627776))) else (some false))
def outbox_kinds.f (a0 : Int) : Option (Bool) := (if a0 ≥ 1 then (some (decide (a0 ≤ 3))) else (some false))
def outbox_time.f (a0 : Int) : Option (Bool) := (if a0 = 0 then (some true) else ((outbox_number.f a0).bind fun t61 => (some t61)))
def outbox_of.f (a0 : Int) (a1 : Int) : Option (Int × Int) := (some (a0, a1))
def outbox_of_1.f (a0_0 : Int) (a0_1 : Int) (a0_2 : Int) (a0_3 : Int) (a1_0 : Int) (a2_0 : Int) : Option (Bool) := (if a0_1 = a1_0 then (some (a0_2 == a2_0)) else (some false))
def slices_IndexFunc_api_Out_api_Out.l1 (k : Nat) (a1_0_0 : Int) (a1_1_0 : Int) (l0 : List S33) : Nat → Int → Option (Int)
  | 0, _ => none
  | ml1 + 1, i162 => (if i162 < (l0.length : Int) then (if 0 ≤ i162 then ((l0[i162.toNat]?).bind fun x191 => ((outbox_of_1.f x191.f0 x191.f1 x191.f2 x191.f3 a1_0_0 a1_1_0).bind fun t194 => (if t194 = true then (some i162) else (slices_IndexFunc_api_Out_api_Out.l1 k a1_0_0 a1_1_0 l0 ml1 (wrap64 (i162 + 1)))))) else none) else (some (-1)))
def slices_IndexFunc_api_Out_api_Out.f (k : Nat) (l0 : List S33) (a1_0_0 : Int) (a1_1_0 : Int) : Option (Int) := (slices_IndexFunc_api_Out_api_Out.l1 k a1_0_0 a1_1_0 l0 k 0)
def outbox_where_Out.f (k : Nat) (l0 : List S33) (a1_0_0 : Int) (a1_1_0 : Int) : Option (Int) := ((slices_IndexFunc_api_Out_api_Out.f k l0 a1_0_0 a1_1_0).bind fun t197 => (some t197))
def outbox_Right.l1 (k : Nat) (a0_0 : Int) (l0_1 : List S33) : Nat → Int → Int → Option (Bool)
  | 0, _, _ => none
  | ml1 + 1, i580, i581 => (if i581 < (l0_1.length : Int) then (if 0 ≤ i581 then ((l0_1[i581.toNat]?).bind fun x754 => ((outbox_number.f x754.f0).bind fun t769 => (if t769 = true then ((outbox_number.f x754.f2).bind fun t772 => (if t772 = true then ((outbox_kinds.f x754.f1).bind fun t775 => (if t775 = true then ((outbox_time.f x754.f3).bind fun t778 => (if t778 = true then (if x754.f0 ≤ i580 then (some false) else ((outbox_of.f x754.f1 x754.f2).bind fun ⟨t795, t796⟩ => ((outbox_where_Out.f k l0_1 t795 t796).bind fun t800 => (if t800 = i581 then (outbox_Right.l1 k a0_0 l0_1 ml1 x754.f0 (wrap64 (i581 + 1))) else (some false))))) else (some false))) else (some false))) else (some false))) else (some false)))) else none) else (if (l0_1.length : Int) ≤ 96 then ((outbox_time.f a0_0).bind fun t812 => (if t812 = true then (some (decide (i580 ≤ a0_0))) else (some false))) else (some false)))
def outbox_Right.f (k : Nat) (a0_0 : Int) (l0_1 : List S33) : Option (Bool) := (outbox_Right.l1 k a0_0 l0_1 k 0 0)
def slices_Clip_api_Out_api_Out.f (l0 : List S33) : Option (List S33) := some l0
def outbox_Put.f (k : Nat) (a0_0 : Int) (l0_1 : List S33) (a1 : Int) (a2 : Int) (a3 : Int) : Option (Int × List S33 × Int × Int) := ((outbox_Right.f k a0_0 l0_1).bind fun t977 => (if t977 = true then ((outbox_kinds.f a1).bind fun t980 => (if t980 = true then ((outbox_number.f a2).bind fun t983 => (if t983 = true then ((outbox_time.f a3).bind fun t986 => (if t986 = true then ((outbox_of.f a1 a2).bind fun ⟨t989, t990⟩ => ((outbox_where_Out.f k l0_1 t989 t990).bind fun t994 => (if t994 ≥ 0 then (some (0, ([] : List S33), 0, 9)) else (if (l0_1.length : Int) = 96 then (some (0, ([] : List S33), 0, 7)) else (if a0_0 = 1099511627776 then (some (0, ([] : List S33), 0, 7)) else ((slices_Clip_api_Out_api_Out.f l0_1).bind fun r1008 => (if (r1008.length + ([(⟨wrap64 (a0_0 + 1), a1, a2, a3⟩ : S33)] : List S33).length) * 32 ≤ 140737488355328 then (some (wrap64 (a0_0 + 1), (r1008 ++ ([(⟨wrap64 (a0_0 + 1), a1, a2, a3⟩ : S33)] : List S33)), wrap64 (a0_0 + 1), 0)) else none))))))) else (some (0, ([] : List S33), 0, 1)))) else (some (0, ([] : List S33), 0, 1)))) else (some (0, ([] : List S33), 0, 1)))) else (some (0, ([] : List S33), 0, 1))))
def outbox_Done_1.f (a0_0 : Int) (a0_1 : Int) (a0_2 : Int) (a0_3 : Int) (a1_0 : Int) : Option (Bool) := (some (a0_0 == a1_0))
def slices_IndexFunc_api_Out_api_Out_s11.l1 (k : Nat) (a1_0_0 : Int) (l0 : List S33) : Nat → Int → Option (Int)
  | 0, _ => none
  | ml1 + 1, i1116 => (if i1116 < (l0.length : Int) then (if 0 ≤ i1116 then ((l0[i1116.toNat]?).bind fun x1145 => ((outbox_Done_1.f x1145.f0 x1145.f1 x1145.f2 x1145.f3 a1_0_0).bind fun t1148 => (if t1148 = true then (some i1116) else (slices_IndexFunc_api_Out_api_Out_s11.l1 k a1_0_0 l0 ml1 (wrap64 (i1116 + 1)))))) else none) else (some (-1)))
def slices_IndexFunc_api_Out_api_Out_s11.f (k : Nat) (l0 : List S33) (a1_0_0 : Int) : Option (Int) := (slices_IndexFunc_api_Out_api_Out_s11.l1 k a1_0_0 l0 k 0)
def outbox_where_Out_s11.f (k : Nat) (l0 : List S33) (a1_0_0 : Int) : Option (Int) := ((slices_IndexFunc_api_Out_api_Out_s11.f k l0 a1_0_0).bind fun t1151 => (some t1151))
def slices_Clone_api_Out_api_Out.f (l0 : List S33) : Option (List S33) := if l0.length * 32 ≤ 140737488355328 then some l0 else none
def slices_Delete_api_Out_api_Out.f (l0 : List S33) (a1 : Int) (a2 : Int) : Option (List S33) := if 0 ≤ a1 ∧ a1 ≤ a2 ∧ a2 ≤ (l0.length : Int) then some (l0.take a1.toNat ++ l0.drop a2.toNat) else none
def outbox_Done.f (k : Nat) (a0_0 : Int) (l0_1 : List S33) (a1 : Int) : Option (Int × List S33 × Int × Int × Int × Int × Int) := ((outbox_Right.f k a0_0 l0_1).bind fun t1044 => (if t1044 = true then ((outbox_where_Out_s11.f k l0_1 a1).bind fun t1153 => (if t1153 < 0 then (some (0, ([] : List S33), 0, 0, 0, 0, 8)) else (if 0 ≤ t1153 then ((l0_1[t1153.toNat]?).bind fun x1162 => ((slices_Clone_api_Out_api_Out.f l0_1).bind fun r1166 => ((slices_Delete_api_Out_api_Out.f r1166 t1153 (wrap64 (t1153 + 1))).bind fun r1170 => (some (a0_0, r1170, x1162.f0, x1162.f1, x1162.f2, x1162.f3, 0))))) else none))) else (some (0, ([] : List S33), 0, 0, 0, 0, 1))))
def outbox_Find.f (k : Nat) (a0_0 : Int) (l0_1 : List S33) (a1 : Int) (a2 : Int) : Option (Int × Int × Int × Int × Int) := ((outbox_Right.f k a0_0 l0_1).bind fun t1199 => (if t1199 = true then ((outbox_of.f a1 a2).bind fun ⟨t1202, t1203⟩ => ((outbox_where_Out.f k l0_1 t1202 t1203).bind fun t1207 => (if t1207 < 0 then (some (0, 0, 0, 0, 8)) else (if 0 ≤ t1207 then ((l0_1[t1207.toNat]?).bind fun x1214 => (some (x1214.f0, x1214.f1, x1214.f2, x1214.f3, 0))) else none)))) else (some (0, 0, 0, 0, 1))))
def outbox_due.f (l0 : List S33) (a1 : Int) : Option (List S33 × Int) := (some (l0, a1))
def outbox_Tell.l0 (k : Nat) (a0_0 : Int) (a1 : Int) (r1268 : List S33) (t1269 : Int) : Nat → Int → (List S33) → (List S33) → Option (Int × List S33 × List S33 × Int)
  | 0, _, _, _ => none
  | ml0 + 1, i1345, l1348, l1352 => (if i1345 < (r1268.length : Int) then (if 0 ≤ i1345 then ((r1268[i1345.toNat]?).bind fun x1453 => (if x1453.f3 ≤ t1269 then (if (l1348.length + ([x1453] : List S33).length) * 32 ≤ 140737488355328 then ((l1352[i1345.toNat]?).bind fun x1478 => (outbox_Tell.l0 k a0_0 a1 r1268 t1269 ml0 (wrap64 (i1345 + 1)) (l1348 ++ ([x1453] : List S33)) (l1352.set i1345.toNat (⟨x1478.f0, x1478.f1, x1478.f2, mn (wrap64 (a1 + 10)) 1099511627776⟩ : S33)))) else none) else (outbox_Tell.l0 k a0_0 a1 r1268 t1269 ml0 (wrap64 (i1345 + 1)) l1348 l1352))) else none) else (some (a0_0, l1352, l1348, 0)))
def outbox_Tell.f (k : Nat) (a0_0 : Int) (l0_1 : List S33) (a1 : Int) : Option (Int × List S33 × List S33 × Int) := ((outbox_Right.f k a0_0 l0_1).bind fun t1250 => (if t1250 = true then ((outbox_time.f a1).bind fun t1253 => (if t1253 = true then ((slices_Clone_api_Out_api_Out.f l0_1).bind fun r1256 => ((outbox_due.f l0_1 a1).bind fun ⟨r1268, t1269⟩ => (outbox_Tell.l0 k a0_0 a1 r1268 t1269 k 0 ([] : List S33) r1256))) else (some (0, ([] : List S33), ([] : List S33), 1)))) else (some (0, ([] : List S33), ([] : List S33), 1))))
def tarryref14_in.f (a0 : Int) (a1 : Int) : Option (Bool) := (if a0 ≥ a1 then (some (decide (a0 ≤ 1099511627776))) else (some false))
def tarryref14_Right.l5 (k : Nat) (rec_l3 : Int → Option (Bool)) (i2878 : Int) (l0_1 : List S33) (x3404 : S33) : Nat → Int → Option (Bool)
  | 0, _ => none
  | ml5 + 1, i3502 => (if i3502 < (((l0_1.take i2878.toNat).drop 0).length : Int) then (if 0 ≤ i3502 then ((((l0_1.take i2878.toNat).drop 0)[i3502.toNat]?).bind fun x3558 => (if x3558.f0 ≥ x3404.f0 then (some false) else (if x3558.f1 = x3404.f1 then (if x3558.f2 = x3404.f2 then (some false) else (tarryref14_Right.l5 k rec_l3 i2878 l0_1 x3404 ml5 (wrap64 (i3502 + 1)))) else (tarryref14_Right.l5 k rec_l3 i2878 l0_1 x3404 ml5 (wrap64 (i3502 + 1)))))) else none) else (rec_l3 (wrap64 (i2878 + 1))))
def tarryref14_Right.l3 (k : Nat) (a0_0 : Int) (l0_1 : List S33) : Nat → Int → Option (Bool)
  | 0, _ => none
  | ml3 + 1, i2878 => (if i2878 < (l0_1.length : Int) then (if 0 ≤ i2878 then ((l0_1[i2878.toNat]?).bind fun x3404 => ((tarryref14_in.f x3404.f0 1).bind fun t3451 => (if t3451 = true then ((tarryref14_in.f x3404.f2 1).bind fun t3454 => (if t3454 = true then (if x3404.f1 < 1 then (some false) else (if x3404.f1 > 3 then (some false) else ((tarryref14_in.f x3404.f3 0).bind fun t3461 => (if t3461 = true then (if x3404.f0 > a0_0 then (some false) else (if i2878 ≤ (l0_1.length : Int) then (tarryref14_Right.l5 k (tarryref14_Right.l3 k a0_0 l0_1 ml3) i2878 l0_1 x3404 k 0) else none)) else (some false))))) else (some false))) else (some false)))) else none) else (if (l0_1.length : Int) ≤ 96 then ((tarryref14_in.f a0_0 0).bind fun t3579 => (some t3579)) else (some false)))
def tarryref14_Right.f (k : Nat) (a0_0 : Int) (l0_1 : List S33) : Option (Bool) := (tarryref14_Right.l3 k a0_0 l0_1 k 0)
def tarryref14_Find.l1 (k : Nat) (a1 : Int) (a2 : Int) (l0_1 : List S33) : Nat → Int → Option (Int × Int × Int × Int)
  | 0, _ => none
  | ml1 + 1, i3748 => (if i3748 < (l0_1.length : Int) then (if 0 ≤ i3748 then ((l0_1[i3748.toNat]?).bind fun x3792 => (if x3792.f1 = a1 then (if x3792.f2 = a2 then (some (x3792.f0, x3792.f1, x3792.f2, x3792.f3)) else (tarryref14_Find.l1 k a1 a2 l0_1 ml1 (wrap64 (i3748 + 1)))) else (tarryref14_Find.l1 k a1 a2 l0_1 ml1 (wrap64 (i3748 + 1))))) else none) else (some (0, 0, 0, 0)))
def tarryref14_Find.f (k : Nat) (a0_0 : Int) (l0_1 : List S33) (a1 : Int) (a2 : Int) : Option (Int × Int × Int × Int) := (tarryref14_Find.l1 k a1 a2 l0_1 k 0)
def tarryref14_Put.f (k : Nat) (a0_0 : Int) (l0_1 : List S33) (a1 : Int) (a2 : Int) (a3 : Int) : Option (Int × List S33 × Int × Int) := ((tarryref14_Right.f k a0_0 l0_1).bind fun t3625 => (if t3625 = true then (if a1 < 1 then (some (0, ([] : List S33), 0, 1)) else (if a1 > 3 then (some (0, ([] : List S33), 0, 1)) else ((tarryref14_in.f a2 1).bind fun t3634 => (if t3634 = true then ((tarryref14_in.f a3 0).bind fun t3637 => (if t3637 = true then ((tarryref14_Find.f k a0_0 l0_1 a1 a2).bind fun ⟨t3811, t3812, t3813, t3814⟩ => (if t3811 > 0 then (some (0, ([] : List S33), 0, 9)) else (if (l0_1.length : Int) = 96 then (some (0, ([] : List S33), 0, 7)) else (if a0_0 = 1099511627776 then (some (0, ([] : List S33), 0, 7)) else (if (([] : List S33).length + l0_1.length) * 32 ≤ 140737488355328 then (if ((([] : List S33) ++ l0_1).length + ([(⟨wrap64 (a0_0 + 1), a1, a2, a3⟩ : S33)] : List S33).length) * 32 ≤ 140737488355328 then (some (wrap64 (a0_0 + 1), ((([] : List S33) ++ l0_1) ++ ([(⟨wrap64 (a0_0 + 1), a1, a2, a3⟩ : S33)] : List S33)), wrap64 (a0_0 + 1), 0)) else none) else none))))) else (some (0, ([] : List S33), 0, 1)))) else (some (0, ([] : List S33), 0, 1)))))) else (some (0, ([] : List S33), 0, 1))))
def tarryref14_Same.l1 (k : Nat) (l0 : List S33) (l1 : List S33) : Nat → Int → Option (Bool)
  | 0, _ => none
  | ml1 + 1, i3933 => (if i3933 < (l0.length : Int) then (if 0 ≤ i3933 then ((l0[i3933.toNat]?).bind fun x3956 => ((l1[i3933.toNat]?).bind fun x3957 => (if (((x3956.f0 == x3957.f0) && ((x3956.f1 == x3957.f1) && ((x3956.f2 == x3957.f2) && (x3956.f3 == x3957.f3))))) = true then (tarryref14_Same.l1 k l0 l1 ml1 (wrap64 (i3933 + 1))) else (some false)))) else none) else (some true))
def tarryref14_Same.f (k : Nat) (l0 : List S33) (l1 : List S33) : Option (Bool) := (if (l0.length : Int) = (l1.length : Int) then (tarryref14_Same.l1 k l0 l1 k 0) else (some false))
def tarryref14_Like.f (k : Nat) (a0_0 : Int) (l0_1 : List S33) (a1_0 : Int) (l1_1 : List S33) : Option (Bool) := (if a0_0 = a1_0 then ((tarryref14_Same.f k l0_1 l1_1).bind fun t3964 => (some t3964)) else (some false))
def tarrylaw14_alive.f (k : Nat)  : Option (Bool) := ((outbox_Put.f k 0 [] 3 7 0).bind fun ⟨t3970, r3971, t3972, t3973⟩ => ((outbox_Tell.f k t3970 r3971 0).bind fun ⟨t3978, r3979, r3980, t3981⟩ => (if t3973 = 0 then (if t3981 = 0 then (if t3972 = 1 then (if (r3980.length : Int) = 1 then ((r3980[0]?).bind fun x4008 => (some (x4008.f2 == 7))) else (some false)) else (some false)) else (some false)) else (some false))))
def tarryref14_Tell.l1 (k : Nat) (a0_0 : Int) (a1 : Int) (l0_1 : List S33) : Nat → Int → (List S33) → Option (Int × List S33)
  | 0, _, _ => none
  | ml1 + 1, i4355, l4358 => (if i4355 < (l0_1.length : Int) then (if 0 ≤ i4355 then ((l0_1[i4355.toNat]?).bind fun x4424 => (if x4424.f3 ≤ a1 then (if (l4358.length + ([(⟨x4424.f0, x4424.f1, x4424.f2, 1099511627776⟩ : S33)] : List S33).length) * 32 ≤ 140737488355328 then (tarryref14_Tell.l1 k a0_0 a1 l0_1 ml1 (wrap64 (i4355 + 1)) (l4358 ++ ([(⟨x4424.f0, x4424.f1, x4424.f2, 1099511627776⟩ : S33)] : List S33))) else none) else (if (l4358.length + ([x4424] : List S33).length) * 32 ≤ 140737488355328 then (tarryref14_Tell.l1 k a0_0 a1 l0_1 ml1 (wrap64 (i4355 + 1)) (l4358 ++ ([x4424] : List S33))) else none))) else none) else (some (a0_0, l4358)))
def tarryref14_Tell.l3 (k : Nat) (a0_0 : Int) (a1 : Int) (l0_1 : List S33) : Nat → Int → (List S33) → Option (Int × List S33)
  | 0, _, _ => none
  | ml3 + 1, i4616, l4619 => (if i4616 < (l0_1.length : Int) then (if 0 ≤ i4616 then ((l0_1[i4616.toNat]?).bind fun x4685 => (if x4685.f3 ≤ a1 then (if (l4619.length + ([(⟨x4685.f0, x4685.f1, x4685.f2, wrap64 (a1 + 10)⟩ : S33)] : List S33).length) * 32 ≤ 140737488355328 then (tarryref14_Tell.l3 k a0_0 a1 l0_1 ml3 (wrap64 (i4616 + 1)) (l4619 ++ ([(⟨x4685.f0, x4685.f1, x4685.f2, wrap64 (a1 + 10)⟩ : S33)] : List S33))) else none) else (if (l4619.length + ([x4685] : List S33).length) * 32 ≤ 140737488355328 then (tarryref14_Tell.l3 k a0_0 a1 l0_1 ml3 (wrap64 (i4616 + 1)) (l4619 ++ ([x4685] : List S33))) else none))) else none) else (some (a0_0, l4619)))
def tarryref14_Tell.f (k : Nat) (a0_0 : Int) (l0_1 : List S33) (a1 : Int) : Option (Int × List S33) := (if (wrap64 (a1 + 10)) > 1099511627776 then (tarryref14_Tell.l1 k a0_0 a1 l0_1 k 0 ([] : List S33)) else (tarryref14_Tell.l3 k a0_0 a1 l0_1 k 0 ([] : List S33)))
def tarryref14_Told.l1 (k : Nat) (a1 : Int) (l0_1 : List S33) : Nat → (List S33) → Int → Option (List S33)
  | 0, _, _ => none
  | ml1 + 1, l4825, i4826 => (if i4826 < (l0_1.length : Int) then (if 0 ≤ i4826 then ((l0_1[i4826.toNat]?).bind fun x4870 => (if x4870.f3 ≤ a1 then (if (l4825.length + ([x4870] : List S33).length) * 32 ≤ 140737488355328 then (tarryref14_Told.l1 k a1 l0_1 ml1 (l4825 ++ ([x4870] : List S33)) (wrap64 (i4826 + 1))) else none) else (tarryref14_Told.l1 k a1 l0_1 ml1 l4825 (wrap64 (i4826 + 1))))) else none) else (some l4825))
def tarryref14_Told.f (k : Nat) (a0_0 : Int) (l0_1 : List S33) (a1 : Int) : Option (List S33) := (tarryref14_Told.l1 k a1 l0_1 k ([] : List S33) 0)
def tarryref14_Get.l1 (k : Nat) (a1 : Int) (l0_1 : List S33) : Nat → Int → Option (Int × Int × Int × Int)
  | 0, _ => none
  | ml1 + 1, i4976 => (if i4976 < (l0_1.length : Int) then (if 0 ≤ i4976 then ((l0_1[i4976.toNat]?).bind fun x5005 => (if x5005.f0 = a1 then (some (x5005.f0, x5005.f1, x5005.f2, x5005.f3)) else (tarryref14_Get.l1 k a1 l0_1 ml1 (wrap64 (i4976 + 1))))) else none) else (some (0, 0, 0, 0)))
def tarryref14_Get.f (k : Nat) (a0_0 : Int) (l0_1 : List S33) (a1 : Int) : Option (Int × Int × Int × Int) := (tarryref14_Get.l1 k a1 l0_1 k 0)
def tarryref14_Done.l1 (k : Nat) (a0_0 : Int) (a1 : Int) (l0_1 : List S33) : Nat → Int → (List S33) → Option (Int × List S33)
  | 0, _, _ => none
  | ml1 + 1, i5170, l5173 => (if i5170 < (l0_1.length : Int) then (if 0 ≤ i5170 then ((l0_1[i5170.toNat]?).bind fun x5218 => (if x5218.f0 = a1 then (tarryref14_Done.l1 k a0_0 a1 l0_1 ml1 (wrap64 (i5170 + 1)) l5173) else (if (l5173.length + ([x5218] : List S33).length) * 32 ≤ 140737488355328 then (tarryref14_Done.l1 k a0_0 a1 l0_1 ml1 (wrap64 (i5170 + 1)) (l5173 ++ ([x5218] : List S33))) else none))) else none) else (some (a0_0, l5173)))
def tarryref14_Done.f (k : Nat) (a0_0 : Int) (l0_1 : List S33) (a1 : Int) : Option (Int × List S33) := (tarryref14_Done.l1 k a0_0 a1 l0_1 k 0 ([] : List S33))
def tarrylaw14_OutboxGoes.j28 (k : Nat) (a4 : Int) (r1176 : List S33) (r18 : List S33) (t1175 : Int) (t1177 : Int) (t1178 : Int) (t1179 : Int) (t1180 : Int) (t1181 : Int) (t17 : Int)  : Option (Bool) := ((tarryref14_Get.f k t17 r18 a4).bind fun ⟨t11218, t11219, t11220, t11221⟩ => (if t11218 = 0 then (if t1181 = 8 then (if (((t1177 == t11218) && ((t1178 == t11219) && ((t1179 == t11220) && (t1180 == t11221))))) = true then ((tarryref14_Like.f k t1175 r1176 0 []).bind fun t11254 => (some t11254)) else none) else none) else (if t1181 = 0 then (if (((t1177 == t11218) && ((t1178 == t11219) && ((t1179 == t11220) && (t1180 == t11221))))) = true then ((tarryref14_Done.f k t17 r18 a4).bind fun ⟨t11260, r11261⟩ => ((tarryref14_Like.f k t1175 r1176 t11260 r11261).bind fun t11265 => (some t11265))) else none) else none)))
def tarrylaw14_OutboxGoes.j26 (k : Nat) (a3 : Int) (a4 : Int) (r1176 : List S33) (r1488 : List S33) (r1489 : List S33) (r18 : List S33) (t1175 : Int) (t1177 : Int) (t1178 : Int) (t1179 : Int) (t1180 : Int) (t1181 : Int) (t1487 : Int) (t1490 : Int) (t17 : Int)  : Option (Bool) := (if a3 < 0 then (if t1490 = 1 then ((tarryref14_Like.f k t1487 r1488 0 []).bind fun t11179 => (if t11179 = true then (if (r1489.length : Int) = 0 then (tarrylaw14_OutboxGoes.j28 k a4 r1176 r18 t1175 t1177 t1178 t1179 t1180 t1181 t17) else none) else none)) else none) else (if a3 > 1099511627776 then (if t1490 = 1 then ((tarryref14_Like.f k t1487 r1488 0 []).bind fun t11196 => (if t11196 = true then (if (r1489.length : Int) = 0 then (tarrylaw14_OutboxGoes.j28 k a4 r1176 r18 t1175 t1177 t1178 t1179 t1180 t1181 t17) else none) else none)) else none) else (if t1490 = 0 then ((tarryref14_Tell.f k t17 r18 a3).bind fun ⟨t11203, r11204⟩ => ((tarryref14_Like.f k t1487 r1488 t11203 r11204).bind fun t11208 => (if t11208 = true then ((tarryref14_Told.f k t17 r18 a3).bind fun r11211 => ((tarryref14_Same.f k r1489 r11211).bind fun t11215 => (if t11215 = true then (tarrylaw14_OutboxGoes.j28 k a4 r1176 r18 t1175 t1177 t1178 t1179 t1180 t1181 t17) else none))) else none))) else none)))
def tarrylaw14_OutboxGoes.j14 (k : Nat) (a1 : Int) (a2 : Int) (a3 : Int) (a4 : Int) (r1176 : List S33) (r1488 : List S33) (r1489 : List S33) (r18 : List S33) (t1175 : Int) (t1177 : Int) (t1178 : Int) (t1179 : Int) (t1180 : Int) (t1181 : Int) (t1217 : Int) (t1218 : Int) (t1219 : Int) (t1220 : Int) (t1221 : Int) (t1487 : Int) (t1490 : Int) (t17 : Int) (q8164 : Bool) : Option (Bool) := (if q8164 = true then (if t1181 = 1 then (if t1221 = 1 then (if t1490 = 1 then ((tarryref14_Like.f k t1175 r1176 0 []).bind fun t8192 => (if t8192 = true then ((tarryref14_Like.f k t1487 r1488 0 []).bind fun t8196 => (if t8196 = true then (if (((t1177 == 0) && ((t1178 == 0) && ((t1179 == 0) && (t1180 == 0))))) = true then (if (((t1217 == 0) && ((t1218 == 0) && ((t1219 == 0) && (t1220 == 0))))) = true then (some ((r1489.length : Int) == 0)) else none) else none) else none)) else none)) else none) else none) else none) else ((tarryref14_Find.f k t17 r18 a1 a2).bind fun ⟨t8204, t8205, t8206, t8207⟩ => (if (((t1217 == t8204) && ((t1218 == t8205) && ((t1219 == t8206) && (t1220 == t8207))))) = true then (if t8204 > 0 then (if t1221 = 0 then (if t8204 = 0 then (if t1221 = 8 then (tarrylaw14_OutboxGoes.j26 k a3 a4 r1176 r1488 r1489 r18 t1175 t1177 t1178 t1179 t1180 t1181 t1487 t1490 t17) else none) else (tarrylaw14_OutboxGoes.j26 k a3 a4 r1176 r1488 r1489 r18 t1175 t1177 t1178 t1179 t1180 t1181 t1487 t1490 t17)) else none) else (if t8204 = 0 then (if t1221 = 8 then (tarrylaw14_OutboxGoes.j26 k a3 a4 r1176 r1488 r1489 r18 t1175 t1177 t1178 t1179 t1180 t1181 t1487 t1490 t17) else none) else (tarrylaw14_OutboxGoes.j26 k a3 a4 r1176 r1488 r1489 r18 t1175 t1177 t1178 t1179 t1180 t1181 t1487 t1490 t17))) else none)))
def tarrylaw14_OutboxGoes.f (k : Nat) (a0_0 : Int) (l0_1 : List S33) (a1 : Int) (a2 : Int) (a3 : Int) (a4 : Int) : Option (Bool) := ((tarrylaw14_few.f a0_0 l0_1).bind fun ⟨t17, r18⟩ => ((outbox_Put.f k t17 r18 a1 a2 a3).bind fun ⟨t1021, r1022, t1023, t1024⟩ => ((outbox_Done.f k t17 r18 a4).bind fun ⟨t1175, r1176, t1177, t1178, t1179, t1180, t1181⟩ => ((outbox_Find.f k t17 r18 a1 a2).bind fun ⟨t1217, t1218, t1219, t1220, t1221⟩ => ((outbox_Tell.f k t17 r18 a3).bind fun ⟨t1487, r1488, r1489, t1490⟩ => ((tarryref14_Put.f k t17 r18 a1 a2 a3).bind fun ⟨t3850, r3851, t3852, t3853⟩ => ((outbox_Right.f k t17 r18).bind fun t4015 => ((tarryref14_Right.f k t17 r18).bind fun t4017 => (if t4015 = t4017 then (if t1024 = t3853 then (if t1023 = t3852 then ((tarryref14_Like.f k t1021 r1022 t3850 r3851).bind fun t4025 => (if t4025 = true then ((tarrylaw14_alive.f k).bind fun t4028 => (if t4028 = true then ((tarryref14_Right.f k t17 r18).bind fun t8161 => (if t8161 = true then (tarrylaw14_OutboxGoes.j14 k a1 a2 a3 a4 r1176 r1488 r1489 r18 t1175 t1177 t1178 t1179 t1180 t1181 t1217 t1218 t1219 t1220 t1221 t1487 t1490 t17 false) else (tarrylaw14_OutboxGoes.j14 k a1 a2 a3 a4 r1176 r1488 r1489 r18 t1175 t1177 t1178 t1179 t1180 t1181 t1217 t1218 t1219 t1220 t1221 t1487 t1490 t17 true))) else none)) else none)) else none) else none) else none)))))))))
/-- THE ONE PURE STATEMENT. -/
def tarrylaw14_OutboxGoes.Pure : Prop := ∀ (a0_0 : Int) (l0_1 : List S33) (a1 : Int) (a2 : Int) (a3 : Int) (a4 : Int), (Lit.int .i64 a0_0).wf = true → allOk ok33 l0_1 → (Lit.int .i64 a1).wf = true → (Lit.int .i64 a2).wf = true → (Lit.int .i64 a3).wf = true → (Lit.int .i64 a4).wf = true → ∃ k, tarrylaw14_OutboxGoes.f k a0_0 l0_1 a1 a2 a3 a4 = some true

end Go.Proofs.Ytapdeoioenblfaa.POutboxGoes
