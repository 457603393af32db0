/- Written by a program of this repo: what the program's functions do, each as a Lean function, shown of the loaded code; or a statement's row over that; no condition of its own. -/
import Derived.Test.YthgoagnennjagaaProg
import Derived.Test.YthgoagnennjagaaV14
namespace Go.Proofs.Ythgoagnennjagaa.PQueueGoes
open Go Go.RowKit Go.Proofs.YthgoagnennjagaaV
set_option linter.unusedVariables false
set_option linter.unusedSimpArgs false

structure S23 where
  f0 : Int
  f1 : Int
  f2 : Int
def enc23 (x : S23) : List Value := [.int .i64 x.f0, .int .i64 x.f1, .int .i64 x.f2]
theorem enc23_ok (a : S23) : (enc23 a).length = 3 ∧ ∀ u ∈ enc23 a, u.oneCell' = true := ⟨rfl, by intro u hu; simp only [enc23, List.mem_cons, List.not_mem_nil, or_false] at hu; rcases hu with rfl | rfl | rfl <;> rfl⟩
def ok23 (x : S23) : Prop := (Lit.int .i64 x.f0).wf = true ∧ (Lit.int .i64 x.f1).wf = true ∧ (Lit.int .i64 x.f2).wf = true
def enc_inti64 (x : Int) : List Value := [.int .i64 x]
theorem enc_inti64_ok (a : Int) : (enc_inti64 a).length = 1 ∧ ∀ u ∈ enc_inti64 a, u.oneCell' = true := ⟨rfl, by intro u hu; simp only [enc_inti64, List.mem_cons, List.not_mem_nil, or_false] at hu; rcases hu with rfl; rfl⟩
theorem VC.join0 {E : Env} {P : Program} {Q : Exit → Act → World → Prop} {s : St}  {c1 c2 : Code} (I : St) (F : Prop) (hx : VC P E c1 (Exit.then (fun a w => F ∧ Inv E (I) a w) Q) s) (hy : F → VC P E c2 Q (I)) : VC P E (.seq c1 c2) Q s :=
  fun a w hi => wp_seq (Code.wp_mono (fun e a w h => by
    cases e <;> first | exact h | (obtain ⟨hf, hi⟩ := h; exact hy  hf a w hi)) (hx a w hi))
theorem VN.meet0 {E : Env} {Q : Exit → Act → World → Prop} {s : St}  {I : St} {F : Prop}  (bs rs : List Nat) (hf : F) (hl : Le s (I) bs rs) : VN E (Exit.then (fun a w => F ∧ Inv E (I) a w) Q) s :=
  fun a w hi => ⟨hf, hi.le hl⟩
theorem VC.join1 {E : Env} {P : Program} {Q : Exit → Act → World → Prop} {s : St} {α0 : Type} {c1 c2 : Code} (I : α0 → St) (F : α0 → Prop) (hx : VC P E c1 (Exit.then (fun a w => ∃ (x0 : α0), F x0 ∧ Inv E (I x0) a w) Q) s) (hy : ∀ (x0 : α0), F x0 → VC P E c2 Q (I x0)) : VC P E (.seq c1 c2) Q s :=
  fun a w hi => wp_seq (Code.wp_mono (fun e a w h => by
    cases e <;> first | exact h | (obtain ⟨x0, hf, hi⟩ := h; exact hy x0 hf a w hi)) (hx a w hi))
theorem VN.meet1 {E : Env} {Q : Exit → Act → World → Prop} {s : St} {α0 : Type} {I : α0 → St} {F : α0 → Prop} (x0 : α0) (bs rs : List Nat) (hf : F x0) (hl : Le s (I x0) bs rs) : VN E (Exit.then (fun a w => ∃ (x0 : α0), F x0 ∧ Inv E (I x0) a w) Q) s :=
  fun a w hi => ⟨x0, hf, hi.le hl⟩
theorem VC.join2 {E : Env} {P : Program} {Q : Exit → Act → World → Prop} {s : St} {α0 : Type} {α1 : Type} {c1 c2 : Code} (I : α0 → α1 → St) (F : α0 → α1 → Prop) (hx : VC P E c1 (Exit.then (fun a w => ∃ (x0 : α0) (x1 : α1), F x0 x1 ∧ Inv E (I x0 x1) a w) Q) s) (hy : ∀ (x0 : α0) (x1 : α1), F x0 x1 → VC P E c2 Q (I x0 x1)) : VC P E (.seq c1 c2) Q s :=
  fun a w hi => wp_seq (Code.wp_mono (fun e a w h => by
    cases e <;> first | exact h | (obtain ⟨x0, x1, hf, hi⟩ := h; exact hy x0 x1 hf a w hi)) (hx a w hi))
theorem VN.meet2 {E : Env} {Q : Exit → Act → World → Prop} {s : St} {α0 : Type} {α1 : Type} {I : α0 → α1 → St} {F : α0 → α1 → Prop} (x0 : α0) (x1 : α1) (bs rs : List Nat) (hf : F x0 x1) (hl : Le s (I x0 x1) bs rs) : VN E (Exit.then (fun a w => ∃ (x0 : α0) (x1 : α1), F x0 x1 ∧ Inv E (I x0 x1) a w) Q) s :=
  fun a w hi => ⟨x0, x1, hf, hi.le hl⟩
theorem VC.join3 {E : Env} {P : Program} {Q : Exit → Act → World → Prop} {s : St} {α0 : Type} {α1 : Type} {α2 : Type} {c1 c2 : Code} (I : α0 → α1 → α2 → St) (F : α0 → α1 → α2 → Prop) (hx : VC P E c1 (Exit.then (fun a w => ∃ (x0 : α0) (x1 : α1) (x2 : α2), F x0 x1 x2 ∧ Inv E (I x0 x1 x2) a w) Q) s) (hy : ∀ (x0 : α0) (x1 : α1) (x2 : α2), F x0 x1 x2 → VC P E c2 Q (I x0 x1 x2)) : VC P E (.seq c1 c2) Q s :=
  fun a w hi => wp_seq (Code.wp_mono (fun e a w h => by
    cases e <;> first | exact h | (obtain ⟨x0, x1, x2, hf, hi⟩ := h; exact hy x0 x1 x2 hf a w hi)) (hx a w hi))
theorem VN.meet3 {E : Env} {Q : Exit → Act → World → Prop} {s : St} {α0 : Type} {α1 : Type} {α2 : Type} {I : α0 → α1 → α2 → St} {F : α0 → α1 → α2 → Prop} (x0 : α0) (x1 : α1) (x2 : α2) (bs rs : List Nat) (hf : F x0 x1 x2) (hl : Le s (I x0 x1 x2) bs rs) : VN E (Exit.then (fun a w => ∃ (x0 : α0) (x1 : α1) (x2 : α2), F x0 x1 x2 ∧ Inv E (I x0 x1 x2) a w) Q) s :=
  fun a w hi => ⟨x0, x1, x2, hf, hi.le hl⟩
theorem VC.join4 {E : Env} {P : Program} {Q : Exit → Act → World → Prop} {s : St} {α0 : Type} {α1 : Type} {α2 : Type} {α3 : Type} {c1 c2 : Code} (I : α0 → α1 → α2 → α3 → St) (F : α0 → α1 → α2 → α3 → Prop) (hx : VC P E c1 (Exit.then (fun a w => ∃ (x0 : α0) (x1 : α1) (x2 : α2) (x3 : α3), F x0 x1 x2 x3 ∧ Inv E (I x0 x1 x2 x3) a w) Q) s) (hy : ∀ (x0 : α0) (x1 : α1) (x2 : α2) (x3 : α3), F x0 x1 x2 x3 → VC P E c2 Q (I x0 x1 x2 x3)) : VC P E (.seq c1 c2) Q s :=
  fun a w hi => wp_seq (Code.wp_mono (fun e a w h => by
    cases e <;> first | exact h | (obtain ⟨x0, x1, x2, x3, hf, hi⟩ := h; exact hy x0 x1 x2 x3 hf a w hi)) (hx a w hi))
theorem VN.meet4 {E : Env} {Q : Exit → Act → World → Prop} {s : St} {α0 : Type} {α1 : Type} {α2 : Type} {α3 : Type} {I : α0 → α1 → α2 → α3 → St} {F : α0 → α1 → α2 → α3 → Prop} (x0 : α0) (x1 : α1) (x2 : α2) (x3 : α3) (bs rs : List Nat) (hf : F x0 x1 x2 x3) (hl : Le s (I x0 x1 x2 x3) bs rs) : VN E (Exit.then (fun a w => ∃ (x0 : α0) (x1 : α1) (x2 : α2) (x3 : α3), F x0 x1 x2 x3 ∧ Inv E (I x0 x1 x2 x3) a w) Q) s :=
  fun a w hi => ⟨x0, x1, x2, x3, hf, hi.le hl⟩
theorem VC.loop1 {E : Env} {P : Program} {Q : Exit → Act → World → Prop} {s : St} {α0 : Type} {c : Code} (I : α0 → St) (F : Nat → α0 → Prop) (k : Nat) (x0 : α0) (bs rs : List Nat) (hf : F k x0) (hl : Le s (I x0) bs rs) (hz : ∀ (x0 : α0), ¬ F 0 x0) (h : ∀ k, (∀ (x0 : α0), F k x0 → VLp P E c Q k (I x0)) → ∀ (x0 : α0), F (k + 1) x0 → VC P E c (Exit.then (Code.rounds P c Q k) Q) (I x0)) : VC P E (.loop c) Q s := by
  have key : ∀ k (x0 : α0), F k x0 → VLp P E c Q k (I x0) := by
    intro k
    induction k with
    | zero => intro x0 hf; exact absurd hf (hz x0)
    | succ k ih => intro x0 hf; exact VLp.succ (h k ih x0 hf)
  exact fun a w hi => wp_loop_rounds k (key k x0 hf a w (hi.le hl))
theorem VC.loop3 {E : Env} {P : Program} {Q : Exit → Act → World → Prop} {s : St} {α0 : Type} {α1 : Type} {α2 : Type} {c : Code} (I : α0 → α1 → α2 → St) (F : Nat → α0 → α1 → α2 → Prop) (k : Nat) (x0 : α0) (x1 : α1) (x2 : α2) (bs rs : List Nat) (hf : F k x0 x1 x2) (hl : Le s (I x0 x1 x2) bs rs) (hz : ∀ (x0 : α0) (x1 : α1) (x2 : α2), ¬ F 0 x0 x1 x2) (h : ∀ k, (∀ (x0 : α0) (x1 : α1) (x2 : α2), F k x0 x1 x2 → VLp P E c Q k (I x0 x1 x2)) → ∀ (x0 : α0) (x1 : α1) (x2 : α2), F (k + 1) x0 x1 x2 → VC P E c (Exit.then (Code.rounds P c Q k) Q) (I x0 x1 x2)) : VC P E (.loop c) Q s := by
  have key : ∀ k (x0 : α0) (x1 : α1) (x2 : α2), F k x0 x1 x2 → VLp P E c Q k (I x0 x1 x2) := by
    intro k
    induction k with
    | zero => intro x0 x1 x2 hf; exact absurd hf (hz x0 x1 x2)
    | succ k ih => intro x0 x1 x2 hf; exact VLp.succ (h k ih x0 x1 x2 hf)
  exact fun a w hi => wp_loop_rounds k (key k x0 x1 x2 hf a w (hi.le hl))
theorem VC.stop0 {E : Env} {P : Program} {Q : Exit → Act → World → Prop} {s : St}  {c1 : Code} (I : St) (F : Prop) (hx : VC P E c1 (Exit.then (fun a w => F ∧ Inv E (I) a w) Q) s) (hy : F → VN E Q (I)) : VC P E c1 Q s :=
  fun a w hi => Code.wp_mono (fun e a w h => by
    cases e <;> first | exact h | (obtain ⟨hf, hi⟩ := h; exact hy  hf a w hi)) (hx a w hi)
theorem VC.stop1 {E : Env} {P : Program} {Q : Exit → Act → World → Prop} {s : St} {α0 : Type} {c1 : Code} (I : α0 → St) (F : α0 → Prop) (hx : VC P E c1 (Exit.then (fun a w => ∃ (x0 : α0), F x0 ∧ Inv E (I x0) a w) Q) s) (hy : ∀ (x0 : α0), F x0 → VN E Q (I x0)) : VC P E c1 Q s :=
  fun a w hi => Code.wp_mono (fun e a w h => by
    cases e <;> first | exact h | (obtain ⟨x0, hf, hi⟩ := h; exact hy x0 hf a w hi)) (hx a w hi)
theorem VC.stop2 {E : Env} {P : Program} {Q : Exit → Act → World → Prop} {s : St} {α0 : Type} {α1 : Type} {c1 : Code} (I : α0 → α1 → St) (F : α0 → α1 → Prop) (hx : VC P E c1 (Exit.then (fun a w => ∃ (x0 : α0) (x1 : α1), F x0 x1 ∧ Inv E (I x0 x1) a w) Q) s) (hy : ∀ (x0 : α0) (x1 : α1), F x0 x1 → VN E Q (I x0 x1)) : VC P E c1 Q s :=
  fun a w hi => Code.wp_mono (fun e a w h => by
    cases e <;> first | exact h | (obtain ⟨x0, x1, hf, hi⟩ := h; exact hy x0 x1 hf a w hi)) (hx a w hi)
theorem VC.stop3 {E : Env} {P : Program} {Q : Exit → Act → World → Prop} {s : St} {α0 : Type} {α1 : Type} {α2 : Type} {c1 : Code} (I : α0 → α1 → α2 → St) (F : α0 → α1 → α2 → Prop) (hx : VC P E c1 (Exit.then (fun a w => ∃ (x0 : α0) (x1 : α1) (x2 : α2), F x0 x1 x2 ∧ Inv E (I x0 x1 x2) a w) Q) s) (hy : ∀ (x0 : α0) (x1 : α1) (x2 : α2), F x0 x1 x2 → VN E Q (I x0 x1 x2)) : VC P E c1 Q s :=
  fun a w hi => Code.wp_mono (fun e a w h => by
    cases e <;> first | exact h | (obtain ⟨x0, x1, x2, hf, hi⟩ := h; exact hy x0 x1 x2 hf a w hi)) (hx a w hi)
theorem VC.stop4 {E : Env} {P : Program} {Q : Exit → Act → World → Prop} {s : St} {α0 : Type} {α1 : Type} {α2 : Type} {α3 : Type} {c1 : Code} (I : α0 → α1 → α2 → α3 → St) (F : α0 → α1 → α2 → α3 → Prop) (hx : VC P E c1 (Exit.then (fun a w => ∃ (x0 : α0) (x1 : α1) (x2 : α2) (x3 : α3), F x0 x1 x2 x3 ∧ Inv E (I x0 x1 x2 x3) a w) Q) s) (hy : ∀ (x0 : α0) (x1 : α1) (x2 : α2) (x3 : α3), F x0 x1 x2 x3 → VN E Q (I x0 x1 x2 x3)) : VC P E c1 Q s :=
  fun a w hi => Code.wp_mono (fun e a w h => by
    cases e <;> first | exact h | (obtain ⟨x0, x1, x2, x3, hf, hi⟩ := h; exact hy x0 x1 x2 x3 hf a w hi)) (hx a w hi)
theorem TI24 : TI Try.prog 24 true 3 := ⟨⟨_, Try.underlying24, rfl⟩, by kernel_rfl⟩
theorem FO7 : FOk Try.prog 7 := ⟨_, Try.func7, by kernel_rfl, by kernel_rfl⟩
theorem TI3 : TI Try.prog 3 false 1 := ⟨⟨_, Try.underlying3, rfl⟩, by kernel_rfl⟩
theorem FI24_0 : FI Try.prog 24 0 0 1 := ⟨_, _, _, Try.underlying24, rfl, rfl, TI3⟩
theorem FO37 : FOk Try.prog 37 := ⟨_, Try.func37, by kernel_rfl, by kernel_rfl⟩
theorem FO33 : FOk Try.prog 33 := ⟨_, Try.func33, by kernel_rfl, by kernel_rfl⟩
theorem FI24_1 : FI Try.prog 24 1 1 1 := ⟨_, _, _, Try.underlying24, rfl, rfl, TI3⟩
theorem FI24_2 : FI Try.prog 24 2 2 1 := ⟨_, _, _, Try.underlying24, rfl, rfl, TI3⟩
theorem Z3 : (Try.prog.info? 3).bind (·.zero) = some (.int .i64 0) := by kernel_rfl
theorem FO32 : FOk Try.prog 32 := ⟨_, Try.func32, by kernel_rfl, by kernel_rfl⟩
theorem FO26 : FOk Try.prog 26 := ⟨_, Try.func26, by kernel_rfl, by kernel_rfl⟩
theorem FO10 : FOk Try.prog 10 := ⟨_, Try.func10, by kernel_rfl, by kernel_rfl⟩
theorem FO34 : FOk Try.prog 34 := ⟨_, Try.func34, by kernel_rfl, by kernel_rfl⟩
theorem FO27 : FOk Try.prog 27 := ⟨_, Try.func27, by kernel_rfl, by kernel_rfl⟩
theorem FO30 : FOk Try.prog 30 := ⟨_, Try.func30, by kernel_rfl, by kernel_rfl⟩
theorem FO36 : FOk Try.prog 36 := ⟨_, Try.func36, by kernel_rfl, by kernel_rfl⟩
theorem FO29 : FOk Try.prog 29 := ⟨_, Try.func29, by kernel_rfl, by kernel_rfl⟩
theorem FO21 : FOk Try.prog 21 := ⟨_, Try.func21, by kernel_rfl, by kernel_rfl⟩
theorem FO12 : FOk Try.prog 12 := ⟨_, Try.func12, by kernel_rfl, by kernel_rfl⟩
theorem EI24 : EI Try.prog 24 3 24 := ei_of (z := .agg #[.int .i64 0, .int .i64 0, .int .i64 0]) (by kernel_rfl) rfl (by decide) (by decide)
theorem Z24 : (Try.prog.info? 24).bind (·.zero) = some (.agg #[.int .i64 0, .int .i64 0, .int .i64 0]) := by kernel_rfl
theorem FO22 : FOk Try.prog 22 := ⟨_, Try.func22, by kernel_rfl, by kernel_rfl⟩
theorem Z40 : (Try.prog.info? 40).bind (·.zero) = some (.slice none 0 0) := by kernel_rfl
theorem ZL40 : (.slice none 0 0 : Value).cells.toList = [.slice none 0 0] := rfl
theorem TI40 : TI Try.prog 40 false 1 := ⟨⟨_, Try.underlying40, rfl⟩, by kernel_rfl⟩
theorem FO28 : FOk Try.prog 28 := ⟨_, Try.func28, by kernel_rfl, by kernel_rfl⟩
theorem MI42_Push : MI Try.prog 42 "Push" 58 true := mi_of (by kernel_rfl)
theorem FO58 : FOk Try.prog 58 := ⟨_, Try.func58, by kernel_rfl, by kernel_rfl⟩
theorem ZL24 : (.agg #[.int .i64 0, .int .i64 0, .int .i64 0] : Value).cells.toList = [.int .i64 0, .int .i64 0, .int .i64 0] := rfl
theorem MI42_Len : MI Try.prog 42 "Len" 54 false := mi_of (by kernel_rfl)
theorem FO54 : FOk Try.prog 54 := ⟨_, Try.func54, by kernel_rfl, by kernel_rfl⟩
theorem FO35 : FOk Try.prog 35 := ⟨_, Try.func35, by kernel_rfl, by kernel_rfl⟩
theorem MI42_Less : MI Try.prog 42 "Less" 55 false := mi_of (by kernel_rfl)
theorem FO55 : FOk Try.prog 55 := ⟨_, Try.func55, by kernel_rfl, by kernel_rfl⟩
theorem MI42_Swap : MI Try.prog 42 "Swap" 56 false := mi_of (by kernel_rfl)
theorem FO56 : FOk Try.prog 56 := ⟨_, Try.func56, by kernel_rfl, by kernel_rfl⟩
theorem FO18 : FOk Try.prog 18 := ⟨_, Try.func18, by kernel_rfl, by kernel_rfl⟩
theorem SI24 : SI Try.prog 24 [.int .i64 0, .int .i64 0, .int .i64 0] [(0, 1), (1, 1), (2, 1)] := ⟨⟨_, Try.underlying24, (.cons ⟨rfl, _, TI3⟩ (.cons ⟨rfl, _, TI3⟩ (.cons ⟨rfl, _, TI3⟩ .nil)))⟩, Z24⟩
theorem FO25 : FOk Try.prog 25 := ⟨_, Try.func25, by kernel_rfl, by kernel_rfl⟩
theorem FO31 : FOk Try.prog 31 := ⟨_, Try.func31, by kernel_rfl, by kernel_rfl⟩
theorem MI42_Pop : MI Try.prog 42 "Pop" 57 true := mi_of (by kernel_rfl)
theorem FO57 : FOk Try.prog 57 := ⟨_, Try.func57, by kernel_rfl, by kernel_rfl⟩
theorem FO19 : FOk Try.prog 19 := ⟨_, Try.func19, by kernel_rfl, by kernel_rfl⟩
theorem FO23 : FOk Try.prog 23 := ⟨_, Try.func23, by kernel_rfl, by kernel_rfl⟩
theorem FO8 : FOk Try.prog 8 := ⟨_, Try.func8, by kernel_rfl, by kernel_rfl⟩
theorem FO14 : FOk Try.prog 14 := ⟨_, Try.func14, by kernel_rfl, by kernel_rfl⟩
theorem FO11 : FOk Try.prog 11 := ⟨_, Try.func11, by kernel_rfl, by kernel_rfl⟩
theorem FO20 : FOk Try.prog 20 := ⟨_, Try.func20, by kernel_rfl, by kernel_rfl⟩
theorem FO15 : FOk Try.prog 15 := ⟨_, Try.func15, by kernel_rfl, by kernel_rfl⟩
theorem FO13 : FOk Try.prog 13 := ⟨_, Try.func13, by kernel_rfl, by kernel_rfl⟩
theorem EQ24 (a0 : Int) (a1 : Int) (a2 : Int) (b0 : Int) (b1 : Int) (b2 : Int) : EqV Try.prog 10000 24 (.agg #[.int .i64 a0, .int .i64 a1, .int .i64 a2]) (.agg #[.int .i64 b0, .int .i64 b1, .int .i64 b2]) ((a0 == b0) && ((a1 == b1) && (a2 == b2))) := (.struct Try.underlying24 (by kernel_rfl) (.cons (by decide) TI3 (fun _ => rfl) rfl rfl rfl rfl (.int Try.underlying3) (.cons (by decide) TI3 (fun _ => rfl) rfl rfl rfl rfl (.int Try.underlying3) (.one (by decide) TI3 (fun _ => rfl) rfl rfl rfl rfl (.int Try.underlying3)))))
theorem EG24 : Try.prog.eqGuardType Try.prog.depth 24 = false := by kernel_rfl
theorem FO16 : FOk Try.prog 16 := ⟨_, Try.func16, by kernel_rfl, by kernel_rfl⟩
theorem FO17 : FOk Try.prog 17 := ⟨_, Try.func17, by kernel_rfl, by kernel_rfl⟩
def tarrylaw06_few.f (l0 : List S23) : Option (List S23) := (if 0 ≤ mn (l0.length : Int) 66 then (if (mn (l0.length : Int) 66) ≤ (l0.length : Int) then (some ((l0.take ((mn (l0.length : Int) 66).toNat)).drop 0)) else none) else none)
def cmp_isNaN_int.f (a0 : Int) : Option (Bool) := (some (a0 != a0))
def cmp_Compare_int.f (a0 : Int) (a1 : Int) : Option (Int) := ((cmp_isNaN_int.f a0).bind fun t34 => ((cmp_isNaN_int.f a1).bind fun t36 => (if t34 = true then (if t36 = true then (some 0) else (some (-1))) else (if t36 = true then (some 1) else (if a0 < a1 then (some (-1)) else (if a0 > a1 then (some 1) else (some 0)))))))
def cmp_Or_int.l1 (k : Nat) (l0 : List Int) : Nat → Int → Option (Int)
  | 0, _ => none
  | ml1 + 1, i120 => (if i120 < (l0.length : Int) then (if 0 ≤ i120 then ((l0[i120.toNat]?).bind fun x146 => (if x146 = 0 then (cmp_Or_int.l1 k l0 ml1 (wrap64 (i120 + 1))) else (some x146))) else none) else (some 0))
def cmp_Or_int.f (k : Nat) (l0 : List Int) : Option (Int) := (cmp_Or_int.l1 k l0 k 0)
def queue_compare.f (k : Nat) (a0_0 : Int) (a0_1 : Int) (a0_2 : Int) (a1_0 : Int) (a1_1 : Int) (a1_2 : Int) : Option (Int) := ((cmp_Compare_int.f a0_0 a1_0).bind fun t54 => ((cmp_Compare_int.f a0_1 a1_1).bind fun t56 => ((cmp_Compare_int.f a0_2 a1_2).bind fun t58 => ((cmp_Or_int.f k ([t54, t56, t58] : List Int)).bind fun t151 => (some t151)))))
def queue_Less.f (k : Nat) (a0_0 : Int) (a0_1 : Int) (a0_2 : Int) (a1_0 : Int) (a1_1 : Int) (a1_2 : Int) : Option (Bool) := ((queue_compare.f k a0_0 a0_1 a0_2 a1_0 a1_1 a1_2).bind fun t153 => (some (decide (t153 < 0))))
def queue_number.f (a0 : Int) : Option (Bool) := (if a0 ≥ 1 then (some (decide (a0 ≤ 1099511627776))) else (some false))
def queue_may.f (a0_0 : Int) (a0_1 : Int) (a0_2 : Int) : Option (Bool) := (if a0_0 ≥ 0 then (if a0_0 < 4 then ((queue_number.f a0_1).bind fun t271 => (if t271 = true then ((queue_number.f a0_2).bind fun t274 => (some t274)) else (some false))) else (some false)) else (some false))
def queue_all_1.f (a0_0 : Int) (a0_1 : Int) (a0_2 : Int) : Option (Bool) := ((queue_may.f a0_0 a0_1 a0_2).bind fun t279 => (if t279 = true then (some false) else (some true)))
def slices_IndexFunc_api_Wait_api_Wait.l1 (k : Nat) (l0 : List S23) : Nat → Int → Option (Int)
  | 0, _ => none
  | ml1 + 1, i341 => (if i341 < (l0.length : Int) then (if 0 ≤ i341 then ((l0[i341.toNat]?).bind fun x370 => ((queue_all_1.f x370.f0 x370.f1 x370.f2).bind fun t373 => (if t373 = true then (some i341) else (slices_IndexFunc_api_Wait_api_Wait.l1 k l0 ml1 (wrap64 (i341 + 1)))))) else none) else (some (-1)))
def slices_IndexFunc_api_Wait_api_Wait.f (k : Nat) (l0 : List S23) : Option (Int) := (slices_IndexFunc_api_Wait_api_Wait.l1 k l0 k 0)
def slices_ContainsFunc_api_Wait_api_Wait.f (k : Nat) (l0 : List S23) : Option (Bool) := ((slices_IndexFunc_api_Wait_api_Wait.f k l0).bind fun t376 => (some (decide (t376 ≥ 0))))
def queue_all.f (k : Nat) (l0 : List S23) : Option (Bool) := (if (l0.length : Int) ≤ 64 then ((slices_ContainsFunc_api_Wait_api_Wait.f k l0).bind fun t384 => (if t384 = true then (some false) else (some true))) else (some false))
def queue_Right.l1 (k : Nat) (l0 : List S23) : Nat → Int → Option (Bool)
  | 0, _ => none
  | ml1 + 1, i218 => (if i218 < (l0.length : Int) then (if 0 ≤ i218 then ((l0[i218.toNat]?).bind fun x399 => (if 0 ≤ IntKind.i64.wrap ((wrap64 (i218 - 1)).tdiv 2) then ((l0[(IntKind.i64.wrap ((wrap64 (i218 - 1)).tdiv 2)).toNat]?).bind fun x401 => ((queue_Less.f k x399.f0 x399.f1 x399.f2 x401.f0 x401.f1 x401.f2).bind fun t402 => (if t402 = true then (some false) else (queue_Right.l1 k l0 ml1 (wrap64 (i218 + 1)))))) else none)) else none) else ((queue_all.f k l0).bind fun t405 => (some t405)))
def queue_Right.f (k : Nat) (l0 : List S23) : Option (Bool) := (queue_Right.l1 k l0 k 1)
def slices_Clone_api_Wait_api_Wait.f (l0 : List S23) : Option (List S23) := if l0.length * 24 ≤ 140737488355328 then some l0 else none
def queue_waits_Swap.f (l0 : List S23) (ai : Int) (aj : Int) : Option (List S23) := if 0 ≤ ai ∧ 0 ≤ aj then (l0[ai.toNat]?).bind fun xi => (l0[aj.toNat]?).bind fun xj => some ((l0.set ai.toNat xj).set aj.toNat xi) else none
def queue_Push.l3 (k : Nat)  : Nat → Int → (List S23) → Option (List S23 × Int)
  | 0, _, _ => none
  | ml3 + 1, i942, l945 => (if (IntKind.i64.wrap ((wrap64 (i942 - 1)).tdiv 2)) = i942 then (some (l945, 0)) else (if 0 ≤ i942 then ((l945[i942.toNat]?).bind fun x1024 => (if 0 ≤ IntKind.i64.wrap ((wrap64 (i942 - 1)).tdiv 2) then ((l945[(IntKind.i64.wrap ((wrap64 (i942 - 1)).tdiv 2)).toNat]?).bind fun x1026 => ((queue_compare.f k x1024.f0 x1024.f1 x1024.f2 x1026.f0 x1026.f1 x1026.f2).bind fun t1027 => (if t1027 < 0 then ((queue_waits_Swap.f l945 (IntKind.i64.wrap ((wrap64 (i942 - 1)).tdiv 2)) i942).bind fun r1031 => (queue_Push.l3 k ml3 (IntKind.i64.wrap ((wrap64 (i942 - 1)).tdiv 2)) r1031)) else (some (l945, 0))))) else none)) else none))
def queue_Push.f (k : Nat) (l0 : List S23) (a1_0 : Int) (a1_1 : Int) (a1_2 : Int) : Option (List S23 × Int) := ((queue_Right.f k l0).bind fun t430 => (if t430 = true then ((queue_may.f a1_0 a1_1 a1_2).bind fun t433 => (if t433 = true then (if (l0.length : Int) = 64 then (some (([] : List S23), 7)) else ((slices_Clone_api_Wait_api_Wait.f l0).bind fun r439 => (if (r439.length + ([(⟨a1_0, a1_1, a1_2⟩ : S23)] : List S23).length) * 24 ≤ 140737488355328 then (queue_Push.l3 k k (wrap64 (((r439 ++ ([(⟨a1_0, a1_1, a1_2⟩ : S23)] : List S23)).length : Int) - 1)) (r439 ++ ([(⟨a1_0, a1_1, a1_2⟩ : S23)] : List S23))) else none))) else (some (([] : List S23), 1)))) else (some (([] : List S23), 1))))
def queue_Pop.j127 (k : Nat) (l45562 : List S23) : Option (List S23 × Int × Int × Int × Int) := (if 0 ≤ wrap64 ((l45562.length : Int) - 1) then ((l45562[(wrap64 ((l45562.length : Int) - 1)).toNat]?).bind fun x45572 => (if (wrap64 ((l45562.length : Int) - 1)) ≤ (l45562.length : Int) then (some ((l45562.take ((wrap64 ((l45562.length : Int) - 1)).toNat)), x45572.f0, x45572.f1, x45572.f2, 0)) else none)) else none)
def queue_Pop.j131 (k : Nat) (rec_l130 : Int → (List S23) → Option (List S23 × Int × Int × Int × Int)) (i44949 : Int) (l44952 : List S23) (r31859 : List S23) (q45414 : Bool) (q45415 : Bool) (q45416 : Bool) : Option (List S23 × Int × Int × Int × Int) := (if q45416 = true then (queue_Pop.j127 k l44952) else (if (wrap64 ((wrap64 ((wrap64 (2 * i44949)) + 1)) + 1)) < (wrap64 ((r31859.length : Int) - 1)) then (if 0 ≤ wrap64 ((wrap64 ((wrap64 (2 * i44949)) + 1)) + 1) then ((l44952[(wrap64 ((wrap64 ((wrap64 (2 * i44949)) + 1)) + 1)).toNat]?).bind fun x45450 => (if 0 ≤ wrap64 ((wrap64 (2 * i44949)) + 1) then ((l44952[(wrap64 ((wrap64 (2 * i44949)) + 1)).toNat]?).bind fun x45452 => ((queue_compare.f k x45450.f0 x45450.f1 x45450.f2 x45452.f0 x45452.f1 x45452.f2).bind fun t45453 => (if t45453 < 0 then ((l44952[(wrap64 ((wrap64 ((wrap64 (2 * i44949)) + 1)) + 1)).toNat]?).bind fun x45479 => (if 0 ≤ i44949 then ((l44952[i44949.toNat]?).bind fun x45481 => ((queue_compare.f k x45479.f0 x45479.f1 x45479.f2 x45481.f0 x45481.f1 x45481.f2).bind fun t45482 => (if t45482 < 0 then ((queue_waits_Swap.f l44952 i44949 (wrap64 ((wrap64 ((wrap64 (2 * i44949)) + 1)) + 1))).bind fun r45486 => (rec_l130 (wrap64 ((wrap64 ((wrap64 (2 * i44949)) + 1)) + 1)) r45486)) else (queue_Pop.j127 k l44952)))) else none)) else ((l44952[(wrap64 ((wrap64 (2 * i44949)) + 1)).toNat]?).bind fun x45512 => (if 0 ≤ i44949 then ((l44952[i44949.toNat]?).bind fun x45514 => ((queue_compare.f k x45512.f0 x45512.f1 x45512.f2 x45514.f0 x45514.f1 x45514.f2).bind fun t45515 => (if t45515 < 0 then ((queue_waits_Swap.f l44952 i44949 (wrap64 ((wrap64 (2 * i44949)) + 1))).bind fun r45519 => (rec_l130 (wrap64 ((wrap64 (2 * i44949)) + 1)) r45519)) else (queue_Pop.j127 k l44952)))) else none))))) else none)) else none) else (if 0 ≤ wrap64 ((wrap64 (2 * i44949)) + 1) then ((l44952[(wrap64 ((wrap64 (2 * i44949)) + 1)).toNat]?).bind fun x45549 => (if 0 ≤ i44949 then ((l44952[i44949.toNat]?).bind fun x45551 => ((queue_compare.f k x45549.f0 x45549.f1 x45549.f2 x45551.f0 x45551.f1 x45551.f2).bind fun t45552 => (if t45552 < 0 then ((queue_waits_Swap.f l44952 i44949 (wrap64 ((wrap64 (2 * i44949)) + 1))).bind fun r45556 => (rec_l130 (wrap64 ((wrap64 (2 * i44949)) + 1)) r45556)) else (queue_Pop.j127 k l44952)))) else none)) else none)))
def queue_Pop.l130 (k : Nat) (r31859 : List S23) : Nat → Int → (List S23) → Option (List S23 × Int × Int × Int × Int)
  | 0, _, _ => none
  | ml130 + 1, i44949, l44952 => (if (wrap64 ((wrap64 (2 * i44949)) + 1)) ≥ (wrap64 ((r31859.length : Int) - 1)) then (queue_Pop.j131 k (queue_Pop.l130 k r31859 ml130) i44949 l44952 r31859 true true true) else (queue_Pop.j131 k (queue_Pop.l130 k r31859 ml130) i44949 l44952 r31859 false false (decide ((wrap64 ((wrap64 (2 * i44949)) + 1)) < 0))))
def queue_Pop.j91 (k : Nat) (l0 : List S23) (q31853 : Bool) : Option (List S23 × Int × Int × Int × Int) := (if q31853 = true then (some (([] : List S23), 0, 0, 0, 1)) else (if (l0.length : Int) = 0 then (some (([] : List S23), 0, 0, 0, 8)) else ((slices_Clone_api_Wait_api_Wait.f l0).bind fun r31859 => ((queue_waits_Swap.f r31859 0 (wrap64 ((r31859.length : Int) - 1))).bind fun r38722 => (queue_Pop.l130 k r31859 k 0 r38722)))))
def queue_Pop.f (k : Nat) (l0 : List S23) : Option (List S23 × Int × Int × Int × Int) := ((queue_Right.f k l0).bind fun t31850 => (if t31850 = true then (queue_Pop.j91 k l0 false) else (queue_Pop.j91 k l0 true)))
def queue_Make.j54 (k : Nat) (rec_l46 : Int → (List S23) → Option (List S23 × Int)) (rec_l53 : Int → (List S23) → Option (List S23 × Int)) (i104890 : Int) (i111465 : Int) (l111468 : List S23) (r90517 : List S23) (q111930 : Bool) (q111931 : Bool) (q111932 : Bool) : Option (List S23 × Int) := (if q111932 = true then (rec_l46 (wrap64 (i104890 - 1)) l111468) else (if (wrap64 ((wrap64 ((wrap64 (2 * i111465)) + 1)) + 1)) < (r90517.length : Int) then (if 0 ≤ wrap64 ((wrap64 ((wrap64 (2 * i111465)) + 1)) + 1) then ((l111468[(wrap64 ((wrap64 ((wrap64 (2 * i111465)) + 1)) + 1)).toNat]?).bind fun x111966 => (if 0 ≤ wrap64 ((wrap64 (2 * i111465)) + 1) then ((l111468[(wrap64 ((wrap64 (2 * i111465)) + 1)).toNat]?).bind fun x111968 => ((queue_compare.f k x111966.f0 x111966.f1 x111966.f2 x111968.f0 x111968.f1 x111968.f2).bind fun t111969 => (if t111969 < 0 then ((l111468[(wrap64 ((wrap64 ((wrap64 (2 * i111465)) + 1)) + 1)).toNat]?).bind fun x111995 => (if 0 ≤ i111465 then ((l111468[i111465.toNat]?).bind fun x111997 => ((queue_compare.f k x111995.f0 x111995.f1 x111995.f2 x111997.f0 x111997.f1 x111997.f2).bind fun t111998 => (if t111998 < 0 then ((queue_waits_Swap.f l111468 i111465 (wrap64 ((wrap64 ((wrap64 (2 * i111465)) + 1)) + 1))).bind fun r112002 => (rec_l53 (wrap64 ((wrap64 ((wrap64 (2 * i111465)) + 1)) + 1)) r112002)) else (rec_l46 (wrap64 (i104890 - 1)) l111468)))) else none)) else ((l111468[(wrap64 ((wrap64 (2 * i111465)) + 1)).toNat]?).bind fun x112028 => (if 0 ≤ i111465 then ((l111468[i111465.toNat]?).bind fun x112030 => ((queue_compare.f k x112028.f0 x112028.f1 x112028.f2 x112030.f0 x112030.f1 x112030.f2).bind fun t112031 => (if t112031 < 0 then ((queue_waits_Swap.f l111468 i111465 (wrap64 ((wrap64 (2 * i111465)) + 1))).bind fun r112035 => (rec_l53 (wrap64 ((wrap64 (2 * i111465)) + 1)) r112035)) else (rec_l46 (wrap64 (i104890 - 1)) l111468)))) else none))))) else none)) else none) else (if 0 ≤ wrap64 ((wrap64 (2 * i111465)) + 1) then ((l111468[(wrap64 ((wrap64 (2 * i111465)) + 1)).toNat]?).bind fun x112065 => (if 0 ≤ i111465 then ((l111468[i111465.toNat]?).bind fun x112067 => ((queue_compare.f k x112065.f0 x112065.f1 x112065.f2 x112067.f0 x112067.f1 x112067.f2).bind fun t112068 => (if t112068 < 0 then ((queue_waits_Swap.f l111468 i111465 (wrap64 ((wrap64 (2 * i111465)) + 1))).bind fun r112072 => (rec_l53 (wrap64 ((wrap64 (2 * i111465)) + 1)) r112072)) else (rec_l46 (wrap64 (i104890 - 1)) l111468)))) else none)) else none)))
def queue_Make.l53 (k : Nat) (rec_l46 : Int → (List S23) → Option (List S23 × Int)) (i104890 : Int) (r90517 : List S23) : Nat → Int → (List S23) → Option (List S23 × Int)
  | 0, _, _ => none
  | ml53 + 1, i111465, l111468 => (if (wrap64 ((wrap64 (2 * i111465)) + 1)) ≥ (r90517.length : Int) then (queue_Make.j54 k rec_l46 (queue_Make.l53 k rec_l46 i104890 r90517 ml53) i104890 i111465 l111468 r90517 true true true) else (queue_Make.j54 k rec_l46 (queue_Make.l53 k rec_l46 i104890 r90517 ml53) i104890 i111465 l111468 r90517 false false (decide ((wrap64 ((wrap64 (2 * i111465)) + 1)) < 0))))
def queue_Make.l46 (k : Nat) (r90517 : List S23) : Nat → Int → (List S23) → Option (List S23 × Int)
  | 0, _, _ => none
  | ml46 + 1, i104890, l104893 => (if i104890 ≥ 0 then (queue_Make.l53 k (queue_Make.l46 k r90517 ml46) i104890 r90517 k i104890 l104893) else (some (l104893, 0)))
def queue_Make.j36 (k : Nat) (l0 : List S23) (q90514 : Bool) : Option (List S23 × Int) := (if q90514 = true then (some (([] : List S23), 1)) else ((slices_Clone_api_Wait_api_Wait.f l0).bind fun r90517 => (queue_Make.l46 k r90517 k (wrap64 ((IntKind.i64.wrap ((r90517.length : Int).tdiv 2)) - 1)) r90517)))
def queue_Make.f (k : Nat) (l0 : List S23) : Option (List S23 × Int) := ((queue_all.f k l0).bind fun t90511 => (if t90511 = true then (queue_Make.j36 k l0 false) else (queue_Make.j36 k l0 true)))
def tarrylaw06_alive.f (k : Nat)  : Option (Bool) := ((queue_Make.f k ([(⟨1, 1, 1⟩ : S23), (⟨0, 9, 2⟩ : S23)] : List S23)).bind fun ⟨r112076, t112077⟩ => ((queue_Pop.f k r112076).bind fun ⟨r112081, t112082, t112083, t112084, t112085⟩ => (if t112077 = 0 then (if t112085 = 0 then (if t112084 = 2 then (some ((r112081.length : Int) == 1)) else (some false)) else (some false)) else (some false))))
def tarryref06_Less.f (a0_0 : Int) (a0_1 : Int) (a0_2 : Int) (a1_0 : Int) (a1_1 : Int) (a1_2 : Int) : Option (Bool) := (if a0_0 = a1_0 then (if a0_1 = a1_1 then (some (decide (a0_2 < a1_2))) else (some (decide (a0_1 < a1_1)))) else (some (decide (a0_0 < a1_0))))
def tarryref06_May.f (a0_0 : Int) (a0_1 : Int) (a0_2 : Int) : Option (Bool) := (if a0_0 ≥ 0 then (if a0_0 ≤ 3 then (if a0_1 ≥ 1 then (if a0_1 ≤ 1099511627776 then (if a0_2 ≥ 1 then (some (decide (a0_2 ≤ 1099511627776))) else (some false)) else (some false)) else (some false)) else (some false)) else (some false))
def tarryref06_All.l1 (k : Nat) (l0 : List S23) : Nat → Int → Option (Bool)
  | 0, _ => none
  | ml1 + 1, i112526 => (if i112526 < (l0.length : Int) then (if 0 ≤ i112526 then ((l0[i112526.toNat]?).bind fun x112568 => ((tarryref06_May.f x112568.f0 x112568.f1 x112568.f2).bind fun t112575 => (if t112575 = true then (tarryref06_All.l1 k l0 ml1 (wrap64 (i112526 + 1))) else (some false)))) else none) else (some (decide ((l0.length : Int) ≤ 64))))
def tarryref06_All.f (k : Nat) (l0 : List S23) : Option (Bool) := (tarryref06_All.l1 k l0 k 0)
def tarryref06_Heap.l1 (k : Nat) (l0 : List S23) : Nat → Int → Option (Bool)
  | 0, _ => none
  | ml1 + 1, i112347 => (if i112347 < (l0.length : Int) then (if (wrap64 ((wrap64 (2 * i112347)) + 1)) < (l0.length : Int) then (if 0 ≤ wrap64 ((wrap64 (2 * i112347)) + 1) then ((l0[(wrap64 ((wrap64 (2 * i112347)) + 1)).toNat]?).bind fun x112611 => (if 0 ≤ i112347 then ((l0[i112347.toNat]?).bind fun x112613 => ((tarryref06_Less.f x112611.f0 x112611.f1 x112611.f2 x112613.f0 x112613.f1 x112613.f2).bind fun t112614 => (if t112614 = true then (some false) else (if (wrap64 ((wrap64 (2 * i112347)) + 2)) < (l0.length : Int) then (if 0 ≤ wrap64 ((wrap64 (2 * i112347)) + 2) then ((l0[(wrap64 ((wrap64 (2 * i112347)) + 2)).toNat]?).bind fun x112620 => ((l0[i112347.toNat]?).bind fun x112621 => ((tarryref06_Less.f x112620.f0 x112620.f1 x112620.f2 x112621.f0 x112621.f1 x112621.f2).bind fun t112622 => (if t112622 = true then (some false) else (tarryref06_Heap.l1 k l0 ml1 (wrap64 (i112347 + 1))))))) else none) else (tarryref06_Heap.l1 k l0 ml1 (wrap64 (i112347 + 1))))))) else none)) else none) else (if (wrap64 ((wrap64 (2 * i112347)) + 2)) < (l0.length : Int) then (if 0 ≤ wrap64 ((wrap64 (2 * i112347)) + 2) then ((l0[(wrap64 ((wrap64 (2 * i112347)) + 2)).toNat]?).bind fun x112628 => (if 0 ≤ i112347 then ((l0[i112347.toNat]?).bind fun x112630 => ((tarryref06_Less.f x112628.f0 x112628.f1 x112628.f2 x112630.f0 x112630.f1 x112630.f2).bind fun t112631 => (if t112631 = true then (some false) else (tarryref06_Heap.l1 k l0 ml1 (wrap64 (i112347 + 1)))))) else none)) else none) else (tarryref06_Heap.l1 k l0 ml1 (wrap64 (i112347 + 1))))) else ((tarryref06_All.f k l0).bind fun t112634 => (some t112634)))
def tarryref06_Heap.f (k : Nat) (l0 : List S23) : Option (Bool) := (tarryref06_Heap.l1 k l0 k 0)
def tarryref06_Sorted.l9 (k : Nat) (rec_l5 : (List S23) → Int → Option (List S23)) (i113972 : Int) (l113971 : List S23) (x114465 : S23) : Nat → Int → Option (List S23)
  | 0, _ => none
  | ml9 + 1, i114522 => (if i114522 < (l113971.length : Int) then (if 0 ≤ i114522 then ((l113971[i114522.toNat]?).bind fun x114584 => ((tarryref06_Less.f x114465.f0 x114465.f1 x114465.f2 x114584.f0 x114584.f1 x114584.f2).bind fun t114585 => (if t114585 = true then (if i114522 ≤ (l113971.length : Int) then (if (([] : List S23).length + ((l113971.take i114522.toNat).drop 0).length) * 24 ≤ 140737488355328 then (if ((([] : List S23) ++ ((l113971.take i114522.toNat).drop 0)).length + ([x114465] : List S23).length) * 24 ≤ 140737488355328 then (if (((([] : List S23) ++ ((l113971.take i114522.toNat).drop 0)) ++ ([x114465] : List S23)).length + ((l113971.take l113971.length).drop i114522.toNat).length) * 24 ≤ 140737488355328 then (rec_l5 (((([] : List S23) ++ ((l113971.take i114522.toNat).drop 0)) ++ ([x114465] : List S23)) ++ ((l113971.take l113971.length).drop i114522.toNat)) (wrap64 (i113972 + 1))) else none) else none) else none) else none) else (tarryref06_Sorted.l9 k rec_l5 i113972 l113971 x114465 ml9 (wrap64 (i114522 + 1)))))) else none) else (if 0 ≤ i114522 then (if i114522 ≤ (l113971.length : Int) then (if (([] : List S23).length + ((l113971.take i114522.toNat).drop 0).length) * 24 ≤ 140737488355328 then (if ((([] : List S23) ++ ((l113971.take i114522.toNat).drop 0)).length + ([x114465] : List S23).length) * 24 ≤ 140737488355328 then (if (((([] : List S23) ++ ((l113971.take i114522.toNat).drop 0)) ++ ([x114465] : List S23)).length + ((l113971.take l113971.length).drop i114522.toNat).length) * 24 ≤ 140737488355328 then (rec_l5 (((([] : List S23) ++ ((l113971.take i114522.toNat).drop 0)) ++ ([x114465] : List S23)) ++ ((l113971.take l113971.length).drop i114522.toNat)) (wrap64 (i113972 + 1))) else none) else none) else none) else none) else none))
def tarryref06_Sorted.l5 (k : Nat) (l0 : List S23) : Nat → (List S23) → Int → Option (List S23)
  | 0, _, _ => none
  | ml5 + 1, l113971, i113972 => (if i113972 < (l0.length : Int) then (if 0 ≤ i113972 then ((l0[i113972.toNat]?).bind fun x114465 => (tarryref06_Sorted.l9 k (tarryref06_Sorted.l5 k l0 ml5) i113972 l113971 x114465 k 0)) else none) else (some l113971))
def tarryref06_Sorted.f (k : Nat) (l0 : List S23) : Option (List S23) := (tarryref06_Sorted.l5 k l0 k ([] : List S23) 0)
def tarryref06_Same.l1 (k : Nat) (l0 : List S23) (l1 : List S23) : Nat → Int → Option (Bool)
  | 0, _ => none
  | ml1 + 1, i114718 => (if i114718 < (l0.length : Int) then (if 0 ≤ i114718 then ((l0[i114718.toNat]?).bind fun x114741 => ((l1[i114718.toNat]?).bind fun x114742 => (if (((x114741.f0 == x114742.f0) && ((x114741.f1 == x114742.f1) && (x114741.f2 == x114742.f2)))) = true then (tarryref06_Same.l1 k l0 l1 ml1 (wrap64 (i114718 + 1))) else (some false)))) else none) else (some true))
def tarryref06_Same.f (k : Nat) (l0 : List S23) (l1 : List S23) : Option (Bool) := (if (l0.length : Int) = (l1.length : Int) then (tarryref06_Same.l1 k l0 l1 k 0) else (some false))
def tarrylaw06_QueueGoes.j2 (k : Nat) (a1_0 : Int) (a1_1 : Int) (a1_2 : Int) (r1036 : List S23) (r13 : List S23) (t1037 : Int)  : Option (Bool) := ((tarryref06_May.f a1_0 a1_1 a1_2).bind fun t115283 => (if t115283 = true then (if (r13.length : Int) = 64 then (if t1037 = 7 then (some ((r1036.length : Int) == 0)) else none) else (if t1037 = 0 then ((tarryref06_Heap.f k r1036).bind fun t115304 => (if t115304 = true then ((tarryref06_Sorted.f k r1036).bind fun r115307 => (if (([] : List S23).length + r13.length) * 24 ≤ 140737488355328 then (if ((([] : List S23) ++ r13).length + ([(⟨a1_0, a1_1, a1_2⟩ : S23)] : List S23).length) * 24 ≤ 140737488355328 then ((tarryref06_Sorted.f k ((([] : List S23) ++ r13) ++ ([(⟨a1_0, a1_1, a1_2⟩ : S23)] : List S23))).bind fun r115321 => ((tarryref06_Same.f k r115307 r115321).bind fun t115325 => (some t115325))) else none) else none)) else none)) else none)) else (if t1037 = 1 then (some ((r1036.length : Int) == 0)) else none)))
def tarrylaw06_QueueGoes.j1 (k : Nat) (a1_0 : Int) (a1_1 : Int) (a1_2 : Int) (r1036 : List S23) (r13 : List S23) (r45580 : List S23) (t1037 : Int) (t45581 : Int) (t45582 : Int) (t45583 : Int) (t45584 : Int) (q115023 : Bool) : Option (Bool) := (if q115023 = true then (if t1037 = 1 then (if t45584 = 1 then (if (wrap64 ((r1036.length : Int) + (r45580.length : Int))) = 0 then (some (((t45581 == 0) && ((t45582 == 0) && (t45583 == 0))))) else none) else none) else none) else ((tarryref06_Sorted.f k r13).bind fun r115039 => (if (r13.length : Int) = 0 then (if t45584 = 8 then (if (r45580.length : Int) = 0 then (if (((t45581 == 0) && ((t45582 == 0) && (t45583 == 0)))) = true then (tarrylaw06_QueueGoes.j2 k a1_0 a1_1 a1_2 r1036 r13 t1037) else none) else none) else none) else (if t45584 = 0 then ((r115039[0]?).bind fun x115252 => (if (((t45581 == x115252.f0) && ((t45582 == x115252.f1) && (t45583 == x115252.f2)))) = true then ((tarryref06_Heap.f k r45580).bind fun t115255 => (if t115255 = true then ((tarryref06_Sorted.f k r45580).bind fun r115258 => (if 1 ≤ (r115039.length : Int) then ((tarryref06_Same.f k r115258 ((r115039.take r115039.length).drop 1)).bind fun t115265 => (if t115265 = true then (tarrylaw06_QueueGoes.j2 k a1_0 a1_1 a1_2 r1036 r13 t1037) else none)) else none)) else none)) else none)) else none))))
def tarrylaw06_QueueGoes.f (k : Nat) (l0 : List S23) (a1_0 : Int) (a1_1 : Int) (a1_2 : Int) : Option (Bool) := ((tarrylaw06_few.f l0).bind fun r13 => ((queue_Push.f k r13 a1_0 a1_1 a1_2).bind fun ⟨r1036, t1037⟩ => ((queue_Pop.f k r13).bind fun ⟨r45580, t45581, t45582, t45583, t45584⟩ => ((tarrylaw06_alive.f k).bind fun t112113 => (if t112113 = true then ((tarryref06_Heap.f k r13).bind fun t115020 => (if t115020 = true then (tarrylaw06_QueueGoes.j1 k a1_0 a1_1 a1_2 r1036 r13 r45580 t1037 t45581 t45582 t45583 t45584 false) else (tarrylaw06_QueueGoes.j1 k a1_0 a1_1 a1_2 r1036 r13 r45580 t1037 t45581 t45582 t45583 t45584 true))) else none)))))
/-- THE ONE PURE STATEMENT. -/
def tarrylaw06_QueueGoes.Pure : Prop := ∀ (l0 : List S23) (a1_0 : Int) (a1_1 : Int) (a1_2 : Int), allOk ok23 l0 → (Lit.int .i64 a1_0).wf = true → (Lit.int .i64 a1_1).wf = true → (Lit.int .i64 a1_2).wf = true → ∃ k, tarrylaw06_QueueGoes.f k l0 a1_0 a1_1 a1_2 = some true

end Go.Proofs.Ythgoagnennjagaa.PQueueGoes
