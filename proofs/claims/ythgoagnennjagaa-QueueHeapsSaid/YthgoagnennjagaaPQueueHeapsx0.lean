/- Written by a program of this repo: what the program's functions do, each as a Lean function, shown of the loaded code; or a statement's row over that; no condition of its own. -/
import Derived.Test.YthgoagnennjagaaProg
import Derived.Test.YthgoagnennjagaaV14
namespace Go.Proofs.Ythgoagnennjagaa.PQueueHeaps
open Go Go.RowKit Go.Proofs.YthgoagnennjagaaV
set_option linter.unusedVariables false
set_option linter.unusedSimpArgs false

structure S23 where
  f0 : Int
  f1 : Int
  f2 : Int
def enc23 (x : S23) : List Value := [.int .i64 x.f0, .int .i64 x.f1, .int .i64 x.f2]
theorem enc23_ok (a : S23) : (enc23 a).length = 3 ∧ ∀ u ∈ enc23 a, u.oneCell' = true := ⟨rfl, by intro u hu; simp only [enc23, List.mem_cons, List.not_mem_nil, or_false] at hu; rcases hu with rfl | rfl | rfl <;> rfl⟩
def ok23 (x : S23) : Prop := (Lit.int .i64 x.f0).wf = true ∧ (Lit.int .i64 x.f1).wf = true ∧ (Lit.int .i64 x.f2).wf = true
def enc_inti64 (x : Int) : List Value := [.int .i64 x]
theorem enc_inti64_ok (a : Int) : (enc_inti64 a).length = 1 ∧ ∀ u ∈ enc_inti64 a, u.oneCell' = true := ⟨rfl, by intro u hu; simp only [enc_inti64, List.mem_cons, List.not_mem_nil, or_false] at hu; rcases hu with rfl; rfl⟩
theorem VC.join0 {E : Env} {P : Program} {Q : Exit → Act → World → Prop} {s : St}  {c1 c2 : Code} (I : St) (F : Prop) (hx : VC P E c1 (Exit.then (fun a w => F ∧ Inv E (I) a w) Q) s) (hy : F → VC P E c2 Q (I)) : VC P E (.seq c1 c2) Q s :=
  fun a w hi => wp_seq (Code.wp_mono (fun e a w h => by
    cases e <;> first | exact h | (obtain ⟨hf, hi⟩ := h; exact hy  hf a w hi)) (hx a w hi))
theorem VN.meet0 {E : Env} {Q : Exit → Act → World → Prop} {s : St}  {I : St} {F : Prop}  (bs rs : List Nat) (hf : F) (hl : Le s (I) bs rs) : VN E (Exit.then (fun a w => F ∧ Inv E (I) a w) Q) s :=
  fun a w hi => ⟨hf, hi.le hl⟩
theorem VC.join1 {E : Env} {P : Program} {Q : Exit → Act → World → Prop} {s : St} {α0 : Type} {c1 c2 : Code} (I : α0 → St) (F : α0 → Prop) (hx : VC P E c1 (Exit.then (fun a w => ∃ (x0 : α0), F x0 ∧ Inv E (I x0) a w) Q) s) (hy : ∀ (x0 : α0), F x0 → VC P E c2 Q (I x0)) : VC P E (.seq c1 c2) Q s :=
  fun a w hi => wp_seq (Code.wp_mono (fun e a w h => by
    cases e <;> first | exact h | (obtain ⟨x0, hf, hi⟩ := h; exact hy x0 hf a w hi)) (hx a w hi))
theorem VN.meet1 {E : Env} {Q : Exit → Act → World → Prop} {s : St} {α0 : Type} {I : α0 → St} {F : α0 → Prop} (x0 : α0) (bs rs : List Nat) (hf : F x0) (hl : Le s (I x0) bs rs) : VN E (Exit.then (fun a w => ∃ (x0 : α0), F x0 ∧ Inv E (I x0) a w) Q) s :=
  fun a w hi => ⟨x0, hf, hi.le hl⟩
theorem VC.join2 {E : Env} {P : Program} {Q : Exit → Act → World → Prop} {s : St} {α0 : Type} {α1 : Type} {c1 c2 : Code} (I : α0 → α1 → St) (F : α0 → α1 → Prop) (hx : VC P E c1 (Exit.then (fun a w => ∃ (x0 : α0) (x1 : α1), F x0 x1 ∧ Inv E (I x0 x1) a w) Q) s) (hy : ∀ (x0 : α0) (x1 : α1), F x0 x1 → VC P E c2 Q (I x0 x1)) : VC P E (.seq c1 c2) Q s :=
  fun a w hi => wp_seq (Code.wp_mono (fun e a w h => by
    cases e <;> first | exact h | (obtain ⟨x0, x1, hf, hi⟩ := h; exact hy x0 x1 hf a w hi)) (hx a w hi))
theorem VN.meet2 {E : Env} {Q : Exit → Act → World → Prop} {s : St} {α0 : Type} {α1 : Type} {I : α0 → α1 → St} {F : α0 → α1 → Prop} (x0 : α0) (x1 : α1) (bs rs : List Nat) (hf : F x0 x1) (hl : Le s (I x0 x1) bs rs) : VN E (Exit.then (fun a w => ∃ (x0 : α0) (x1 : α1), F x0 x1 ∧ Inv E (I x0 x1) a w) Q) s :=
  fun a w hi => ⟨x0, x1, hf, hi.le hl⟩
theorem VC.join3 {E : Env} {P : Program} {Q : Exit → Act → World → Prop} {s : St} {α0 : Type} {α1 : Type} {α2 : Type} {c1 c2 : Code} (I : α0 → α1 → α2 → St) (F : α0 → α1 → α2 → Prop) (hx : VC P E c1 (Exit.then (fun a w => ∃ (x0 : α0) (x1 : α1) (x2 : α2), F x0 x1 x2 ∧ Inv E (I x0 x1 x2) a w) Q) s) (hy : ∀ (x0 : α0) (x1 : α1) (x2 : α2), F x0 x1 x2 → VC P E c2 Q (I x0 x1 x2)) : VC P E (.seq c1 c2) Q s :=
  fun a w hi => wp_seq (Code.wp_mono (fun e a w h => by
    cases e <;> first | exact h | (obtain ⟨x0, x1, x2, hf, hi⟩ := h; exact hy x0 x1 x2 hf a w hi)) (hx a w hi))
theorem VN.meet3 {E : Env} {Q : Exit → Act → World → Prop} {s : St} {α0 : Type} {α1 : Type} {α2 : Type} {I : α0 → α1 → α2 → St} {F : α0 → α1 → α2 → Prop} (x0 : α0) (x1 : α1) (x2 : α2) (bs rs : List Nat) (hf : F x0 x1 x2) (hl : Le s (I x0 x1 x2) bs rs) : VN E (Exit.then (fun a w => ∃ (x0 : α0) (x1 : α1) (x2 : α2), F x0 x1 x2 ∧ Inv E (I x0 x1 x2) a w) Q) s :=
  fun a w hi => ⟨x0, x1, x2, hf, hi.le hl⟩
theorem VC.join4 {E : Env} {P : Program} {Q : Exit → Act → World → Prop} {s : St} {α0 : Type} {α1 : Type} {α2 : Type} {α3 : Type} {c1 c2 : Code} (I : α0 → α1 → α2 → α3 → St) (F : α0 → α1 → α2 → α3 → Prop) (hx : VC P E c1 (Exit.then (fun a w => ∃ (x0 : α0) (x1 : α1) (x2 : α2) (x3 : α3), F x0 x1 x2 x3 ∧ Inv E (I x0 x1 x2 x3) a w) Q) s) (hy : ∀ (x0 : α0) (x1 : α1) (x2 : α2) (x3 : α3), F x0 x1 x2 x3 → VC P E c2 Q (I x0 x1 x2 x3)) : VC P E (.seq c1 c2) Q s :=
  fun a w hi => wp_seq (Code.wp_mono (fun e a w h => by
    cases e <;> first | exact h | (obtain ⟨x0, x1, x2, x3, hf, hi⟩ := h; exact hy x0 x1 x2 x3 hf a w hi)) (hx a w hi))
theorem VN.meet4 {E : Env} {Q : Exit → Act → World → Prop} {s : St} {α0 : Type} {α1 : Type} {α2 : Type} {α3 : Type} {I : α0 → α1 → α2 → α3 → St} {F : α0 → α1 → α2 → α3 → Prop} (x0 : α0) (x1 : α1) (x2 : α2) (x3 : α3) (bs rs : List Nat) (hf : F x0 x1 x2 x3) (hl : Le s (I x0 x1 x2 x3) bs rs) : VN E (Exit.then (fun a w => ∃ (x0 : α0) (x1 : α1) (x2 : α2) (x3 : α3), F x0 x1 x2 x3 ∧ Inv E (I x0 x1 x2 x3) a w) Q) s :=
  fun a w hi => ⟨x0, x1, x2, x3, hf, hi.le hl⟩
theorem VC.loop1 {E : Env} {P : Program} {Q : Exit → Act → World → Prop} {s : St} {α0 : Type} {c : Code} (I : α0 → St) (F : Nat → α0 → Prop) (k : Nat) (x0 : α0) (bs rs : List Nat) (hf : F k x0) (hl : Le s (I x0) bs rs) (hz : ∀ (x0 : α0), ¬ F 0 x0) (h : ∀ k, (∀ (x0 : α0), F k x0 → VLp P E c Q k (I x0)) → ∀ (x0 : α0), F (k + 1) x0 → VC P E c (Exit.then (Code.rounds P c Q k) Q) (I x0)) : VC P E (.loop c) Q s := by
  have key : ∀ k (x0 : α0), F k x0 → VLp P E c Q k (I x0) := by
    intro k
    induction k with
    | zero => intro x0 hf; exact absurd hf (hz x0)
    | succ k ih => intro x0 hf; exact VLp.succ (h k ih x0 hf)
  exact fun a w hi => wp_loop_rounds k (key k x0 hf a w (hi.le hl))
theorem VC.loop3 {E : Env} {P : Program} {Q : Exit → Act → World → Prop} {s : St} {α0 : Type} {α1 : Type} {α2 : Type} {c : Code} (I : α0 → α1 → α2 → St) (F : Nat → α0 → α1 → α2 → Prop) (k : Nat) (x0 : α0) (x1 : α1) (x2 : α2) (bs rs : List Nat) (hf : F k x0 x1 x2) (hl : Le s (I x0 x1 x2) bs rs) (hz : ∀ (x0 : α0) (x1 : α1) (x2 : α2), ¬ F 0 x0 x1 x2) (h : ∀ k, (∀ (x0 : α0) (x1 : α1) (x2 : α2), F k x0 x1 x2 → VLp P E c Q k (I x0 x1 x2)) → ∀ (x0 : α0) (x1 : α1) (x2 : α2), F (k + 1) x0 x1 x2 → VC P E c (Exit.then (Code.rounds P c Q k) Q) (I x0 x1 x2)) : VC P E (.loop c) Q s := by
  have key : ∀ k (x0 : α0) (x1 : α1) (x2 : α2), F k x0 x1 x2 → VLp P E c Q k (I x0 x1 x2) := by
    intro k
    induction k with
    | zero => intro x0 x1 x2 hf; exact absurd hf (hz x0 x1 x2)
    | succ k ih => intro x0 x1 x2 hf; exact VLp.succ (h k ih x0 x1 x2 hf)
  exact fun a w hi => wp_loop_rounds k (key k x0 x1 x2 hf a w (hi.le hl))
theorem VC.loop4 {E : Env} {P : Program} {Q : Exit → Act → World → Prop} {s : St} {α0 : Type} {α1 : Type} {α2 : Type} {α3 : Type} {c : Code} (I : α0 → α1 → α2 → α3 → St) (F : Nat → α0 → α1 → α2 → α3 → Prop) (k : Nat) (x0 : α0) (x1 : α1) (x2 : α2) (x3 : α3) (bs rs : List Nat) (hf : F k x0 x1 x2 x3) (hl : Le s (I x0 x1 x2 x3) bs rs) (hz : ∀ (x0 : α0) (x1 : α1) (x2 : α2) (x3 : α3), ¬ F 0 x0 x1 x2 x3) (h : ∀ k, (∀ (x0 : α0) (x1 : α1) (x2 : α2) (x3 : α3), F k x0 x1 x2 x3 → VLp P E c Q k (I x0 x1 x2 x3)) → ∀ (x0 : α0) (x1 : α1) (x2 : α2) (x3 : α3), F (k + 1) x0 x1 x2 x3 → VC P E c (Exit.then (Code.rounds P c Q k) Q) (I x0 x1 x2 x3)) : VC P E (.loop c) Q s := by
  have key : ∀ k (x0 : α0) (x1 : α1) (x2 : α2) (x3 : α3), F k x0 x1 x2 x3 → VLp P E c Q k (I x0 x1 x2 x3) := by
    intro k
    induction k with
    | zero => intro x0 x1 x2 x3 hf; exact absurd hf (hz x0 x1 x2 x3)
    | succ k ih => intro x0 x1 x2 x3 hf; exact VLp.succ (h k ih x0 x1 x2 x3 hf)
  exact fun a w hi => wp_loop_rounds k (key k x0 x1 x2 x3 hf a w (hi.le hl))
theorem VC.stop0 {E : Env} {P : Program} {Q : Exit → Act → World → Prop} {s : St}  {c1 : Code} (I : St) (F : Prop) (hx : VC P E c1 (Exit.then (fun a w => F ∧ Inv E (I) a w) Q) s) (hy : F → VN E Q (I)) : VC P E c1 Q s :=
  fun a w hi => Code.wp_mono (fun e a w h => by
    cases e <;> first | exact h | (obtain ⟨hf, hi⟩ := h; exact hy  hf a w hi)) (hx a w hi)
theorem VC.stop1 {E : Env} {P : Program} {Q : Exit → Act → World → Prop} {s : St} {α0 : Type} {c1 : Code} (I : α0 → St) (F : α0 → Prop) (hx : VC P E c1 (Exit.then (fun a w => ∃ (x0 : α0), F x0 ∧ Inv E (I x0) a w) Q) s) (hy : ∀ (x0 : α0), F x0 → VN E Q (I x0)) : VC P E c1 Q s :=
  fun a w hi => Code.wp_mono (fun e a w h => by
    cases e <;> first | exact h | (obtain ⟨x0, hf, hi⟩ := h; exact hy x0 hf a w hi)) (hx a w hi)
theorem VC.stop2 {E : Env} {P : Program} {Q : Exit → Act → World → Prop} {s : St} {α0 : Type} {α1 : Type} {c1 : Code} (I : α0 → α1 → St) (F : α0 → α1 → Prop) (hx : VC P E c1 (Exit.then (fun a w => ∃ (x0 : α0) (x1 : α1), F x0 x1 ∧ Inv E (I x0 x1) a w) Q) s) (hy : ∀ (x0 : α0) (x1 : α1), F x0 x1 → VN E Q (I x0 x1)) : VC P E c1 Q s :=
  fun a w hi => Code.wp_mono (fun e a w h => by
    cases e <;> first | exact h | (obtain ⟨x0, x1, hf, hi⟩ := h; exact hy x0 x1 hf a w hi)) (hx a w hi)
theorem VC.stop3 {E : Env} {P : Program} {Q : Exit → Act → World → Prop} {s : St} {α0 : Type} {α1 : Type} {α2 : Type} {c1 : Code} (I : α0 → α1 → α2 → St) (F : α0 → α1 → α2 → Prop) (hx : VC P E c1 (Exit.then (fun a w => ∃ (x0 : α0) (x1 : α1) (x2 : α2), F x0 x1 x2 ∧ Inv E (I x0 x1 x2) a w) Q) s) (hy : ∀ (x0 : α0) (x1 : α1) (x2 : α2), F x0 x1 x2 → VN E Q (I x0 x1 x2)) : VC P E c1 Q s :=
  fun a w hi => Code.wp_mono (fun e a w h => by
    cases e <;> first | exact h | (obtain ⟨x0, x1, x2, hf, hi⟩ := h; exact hy x0 x1 x2 hf a w hi)) (hx a w hi)
theorem VC.stop4 {E : Env} {P : Program} {Q : Exit → Act → World → Prop} {s : St} {α0 : Type} {α1 : Type} {α2 : Type} {α3 : Type} {c1 : Code} (I : α0 → α1 → α2 → α3 → St) (F : α0 → α1 → α2 → α3 → Prop) (hx : VC P E c1 (Exit.then (fun a w => ∃ (x0 : α0) (x1 : α1) (x2 : α2) (x3 : α3), F x0 x1 x2 x3 ∧ Inv E (I x0 x1 x2 x3) a w) Q) s) (hy : ∀ (x0 : α0) (x1 : α1) (x2 : α2) (x3 : α3), F x0 x1 x2 x3 → VN E Q (I x0 x1 x2 x3)) : VC P E c1 Q s :=
  fun a w hi => Code.wp_mono (fun e a w h => by
    cases e <;> first | exact h | (obtain ⟨x0, x1, x2, x3, hf, hi⟩ := h; exact hy x0 x1 x2 x3 hf a w hi)) (hx a w hi)
theorem TI24 : TI Try.prog 24 true 3 := ⟨⟨_, Try.underlying24, rfl⟩, by kernel_rfl⟩
theorem FO7 : FOk Try.prog 7 := ⟨_, Try.func7, by kernel_rfl, by kernel_rfl⟩
theorem TI3 : TI Try.prog 3 false 1 := ⟨⟨_, Try.underlying3, rfl⟩, by kernel_rfl⟩
theorem FI24_0 : FI Try.prog 24 0 0 1 := ⟨_, _, _, Try.underlying24, rfl, rfl, TI3⟩
theorem FI24_1 : FI Try.prog 24 1 1 1 := ⟨_, _, _, Try.underlying24, rfl, rfl, TI3⟩
theorem FO34 : FOk Try.prog 34 := ⟨_, Try.func34, by kernel_rfl, by kernel_rfl⟩
theorem FI24_2 : FI Try.prog 24 2 2 1 := ⟨_, _, _, Try.underlying24, rfl, rfl, TI3⟩
theorem FO27 : FOk Try.prog 27 := ⟨_, Try.func27, by kernel_rfl, by kernel_rfl⟩
theorem FO30 : FOk Try.prog 30 := ⟨_, Try.func30, by kernel_rfl, by kernel_rfl⟩
theorem FO36 : FOk Try.prog 36 := ⟨_, Try.func36, by kernel_rfl, by kernel_rfl⟩
theorem FO29 : FOk Try.prog 29 := ⟨_, Try.func29, by kernel_rfl, by kernel_rfl⟩
theorem FO21 : FOk Try.prog 21 := ⟨_, Try.func21, by kernel_rfl, by kernel_rfl⟩
theorem EI24 : EI Try.prog 24 3 24 := ei_of (z := .agg #[.int .i64 0, .int .i64 0, .int .i64 0]) (by kernel_rfl) rfl (by decide) (by decide)
theorem Z24 : (Try.prog.info? 24).bind (·.zero) = some (.agg #[.int .i64 0, .int .i64 0, .int .i64 0]) := by kernel_rfl
theorem FO22 : FOk Try.prog 22 := ⟨_, Try.func22, by kernel_rfl, by kernel_rfl⟩
theorem Z40 : (Try.prog.info? 40).bind (·.zero) = some (.slice none 0 0) := by kernel_rfl
theorem ZL40 : (.slice none 0 0 : Value).cells.toList = [.slice none 0 0] := rfl
theorem TI40 : TI Try.prog 40 false 1 := ⟨⟨_, Try.underlying40, rfl⟩, by kernel_rfl⟩
theorem FO23 : FOk Try.prog 23 := ⟨_, Try.func23, by kernel_rfl, by kernel_rfl⟩
theorem MI42_Len : MI Try.prog 42 "Len" 54 false := mi_of (by kernel_rfl)
theorem FO54 : FOk Try.prog 54 := ⟨_, Try.func54, by kernel_rfl, by kernel_rfl⟩
theorem FO31 : FOk Try.prog 31 := ⟨_, Try.func31, by kernel_rfl, by kernel_rfl⟩
theorem MI42_Less : MI Try.prog 42 "Less" 55 false := mi_of (by kernel_rfl)
theorem FO55 : FOk Try.prog 55 := ⟨_, Try.func55, by kernel_rfl, by kernel_rfl⟩
theorem FO37 : FOk Try.prog 37 := ⟨_, Try.func37, by kernel_rfl, by kernel_rfl⟩
theorem FO33 : FOk Try.prog 33 := ⟨_, Try.func33, by kernel_rfl, by kernel_rfl⟩
theorem Z3 : (Try.prog.info? 3).bind (·.zero) = some (.int .i64 0) := by kernel_rfl
theorem FO32 : FOk Try.prog 32 := ⟨_, Try.func32, by kernel_rfl, by kernel_rfl⟩
theorem FO26 : FOk Try.prog 26 := ⟨_, Try.func26, by kernel_rfl, by kernel_rfl⟩
theorem MI42_Swap : MI Try.prog 42 "Swap" 56 false := mi_of (by kernel_rfl)
theorem FO56 : FOk Try.prog 56 := ⟨_, Try.func56, by kernel_rfl, by kernel_rfl⟩
theorem FO8 : FOk Try.prog 8 := ⟨_, Try.func8, by kernel_rfl, by kernel_rfl⟩
theorem FO24 : FOk Try.prog 24 := ⟨_, Try.func24, by kernel_rfl, by kernel_rfl⟩
theorem FO25 : FOk Try.prog 25 := ⟨_, Try.func25, by kernel_rfl, by kernel_rfl⟩
theorem MI42_Pop : MI Try.prog 42 "Pop" 57 true := mi_of (by kernel_rfl)
theorem FO57 : FOk Try.prog 57 := ⟨_, Try.func57, by kernel_rfl, by kernel_rfl⟩
theorem ZL24 : (.agg #[.int .i64 0, .int .i64 0, .int .i64 0] : Value).cells.toList = [.int .i64 0, .int .i64 0, .int .i64 0] := rfl
theorem FO9 : FOk Try.prog 9 := ⟨_, Try.func9, by kernel_rfl, by kernel_rfl⟩
theorem FO10 : FOk Try.prog 10 := ⟨_, Try.func10, by kernel_rfl, by kernel_rfl⟩
theorem FO11 : FOk Try.prog 11 := ⟨_, Try.func11, by kernel_rfl, by kernel_rfl⟩
theorem FO12 : FOk Try.prog 12 := ⟨_, Try.func12, by kernel_rfl, by kernel_rfl⟩
theorem FO20 : FOk Try.prog 20 := ⟨_, Try.func20, by kernel_rfl, by kernel_rfl⟩
theorem FO15 : FOk Try.prog 15 := ⟨_, Try.func15, by kernel_rfl, by kernel_rfl⟩
theorem FO13 : FOk Try.prog 13 := ⟨_, Try.func13, by kernel_rfl, by kernel_rfl⟩
theorem SI24 : SI Try.prog 24 [.int .i64 0, .int .i64 0, .int .i64 0] [(0, 1), (1, 1), (2, 1)] := ⟨⟨_, Try.underlying24, (.cons ⟨rfl, _, TI3⟩ (.cons ⟨rfl, _, TI3⟩ (.cons ⟨rfl, _, TI3⟩ .nil)))⟩, Z24⟩
theorem FO19 : FOk Try.prog 19 := ⟨_, Try.func19, by kernel_rfl, by kernel_rfl⟩
theorem FO14 : FOk Try.prog 14 := ⟨_, Try.func14, by kernel_rfl, by kernel_rfl⟩
theorem FO16 : FOk Try.prog 16 := ⟨_, Try.func16, by kernel_rfl, by kernel_rfl⟩
theorem EQ24 (a0 : Int) (a1 : Int) (a2 : Int) (b0 : Int) (b1 : Int) (b2 : Int) : EqV Try.prog 10000 24 (.agg #[.int .i64 a0, .int .i64 a1, .int .i64 a2]) (.agg #[.int .i64 b0, .int .i64 b1, .int .i64 b2]) ((a0 == b0) && ((a1 == b1) && (a2 == b2))) := (.struct Try.underlying24 (by kernel_rfl) (.cons (by decide) TI3 (fun _ => rfl) rfl rfl rfl rfl (.int Try.underlying3) (.cons (by decide) TI3 (fun _ => rfl) rfl rfl rfl rfl (.int Try.underlying3) (.one (by decide) TI3 (fun _ => rfl) rfl rfl rfl rfl (.int Try.underlying3)))))
theorem EG24 : Try.prog.eqGuardType Try.prog.depth 24 = false := by kernel_rfl
theorem FO17 : FOk Try.prog 17 := ⟨_, Try.func17, by kernel_rfl, by kernel_rfl⟩
def tarrylaw06_few.f (l0 : List S23) : Option (List S23) := (if 0 ≤ mn (l0.length : Int) 66 then (if (mn (l0.length : Int) 66) ≤ (l0.length : Int) then (some ((l0.take ((mn (l0.length : Int) 66).toNat)).drop 0)) else none) else none)
def queue_number.f (a0 : Int) : Option (Bool) := (if a0 ≥ 1 then (some (decide (a0 ≤ 1099511627776))) else (some false))
def queue_may.f (a0_0 : Int) (a0_1 : Int) (a0_2 : Int) : Option (Bool) := (if a0_0 ≥ 0 then (if a0_0 < 4 then ((queue_number.f a0_1).bind fun t51 => (if t51 = true then ((queue_number.f a0_2).bind fun t54 => (some t54)) else (some false))) else (some false)) else (some false))
def queue_all_1.f (a0_0 : Int) (a0_1 : Int) (a0_2 : Int) : Option (Bool) := ((queue_may.f a0_0 a0_1 a0_2).bind fun t59 => (if t59 = true then (some false) else (some true)))
def slices_IndexFunc_api_Wait_api_Wait.l1 (k : Nat) (l0 : List S23) : Nat → Int → Option (Int)
  | 0, _ => none
  | ml1 + 1, i121 => (if i121 < (l0.length : Int) then (if 0 ≤ i121 then ((l0[i121.toNat]?).bind fun x150 => ((queue_all_1.f x150.f0 x150.f1 x150.f2).bind fun t153 => (if t153 = true then (some i121) else (slices_IndexFunc_api_Wait_api_Wait.l1 k l0 ml1 (wrap64 (i121 + 1)))))) else none) else (some (-1)))
def slices_IndexFunc_api_Wait_api_Wait.f (k : Nat) (l0 : List S23) : Option (Int) := (slices_IndexFunc_api_Wait_api_Wait.l1 k l0 k 0)
def slices_ContainsFunc_api_Wait_api_Wait.f (k : Nat) (l0 : List S23) : Option (Bool) := ((slices_IndexFunc_api_Wait_api_Wait.f k l0).bind fun t156 => (some (decide (t156 ≥ 0))))
def queue_all.f (k : Nat) (l0 : List S23) : Option (Bool) := (if (l0.length : Int) ≤ 64 then ((slices_ContainsFunc_api_Wait_api_Wait.f k l0).bind fun t164 => (if t164 = true then (some false) else (some true))) else (some false))
def slices_Clone_api_Wait_api_Wait.f (l0 : List S23) : Option (List S23) := if l0.length * 24 ≤ 140737488355328 then some l0 else none
def cmp_isNaN_int.f (a0 : Int) : Option (Bool) := (some (a0 != a0))
def cmp_Compare_int.f (a0 : Int) (a1 : Int) : Option (Int) := ((cmp_isNaN_int.f a0).bind fun t214 => ((cmp_isNaN_int.f a1).bind fun t216 => (if t214 = true then (if t216 = true then (some 0) else (some (-1))) else (if t216 = true then (some 1) else (if a0 < a1 then (some (-1)) else (if a0 > a1 then (some 1) else (some 0)))))))
def cmp_Or_int.l1 (k : Nat) (l0 : List Int) : Nat → Int → Option (Int)
  | 0, _ => none
  | ml1 + 1, i300 => (if i300 < (l0.length : Int) then (if 0 ≤ i300 then ((l0[i300.toNat]?).bind fun x326 => (if x326 = 0 then (cmp_Or_int.l1 k l0 ml1 (wrap64 (i300 + 1))) else (some x326))) else none) else (some 0))
def cmp_Or_int.f (k : Nat) (l0 : List Int) : Option (Int) := (cmp_Or_int.l1 k l0 k 0)
def queue_compare.f (k : Nat) (a0_0 : Int) (a0_1 : Int) (a0_2 : Int) (a1_0 : Int) (a1_1 : Int) (a1_2 : Int) : Option (Int) := ((cmp_Compare_int.f a0_0 a1_0).bind fun t234 => ((cmp_Compare_int.f a0_1 a1_1).bind fun t236 => ((cmp_Compare_int.f a0_2 a1_2).bind fun t238 => ((cmp_Or_int.f k ([t234, t236, t238] : List Int)).bind fun t331 => (some t331)))))
def queue_waits_Swap.f (l0 : List S23) (ai : Int) (aj : Int) : Option (List S23) := if 0 ≤ ai ∧ 0 ≤ aj then (l0[ai.toNat]?).bind fun xi => (l0[aj.toNat]?).bind fun xj => some ((l0.set ai.toNat xj).set aj.toNat xi) else none
def queue_Make.j54 (k : Nat) (rec_l46 : Int → (List S23) → Option (List S23 × Int)) (rec_l53 : Int → (List S23) → Option (List S23 × Int)) (i59587 : Int) (i66162 : Int) (l66165 : List S23) (r45214 : List S23) (q66627 : Bool) (q66628 : Bool) (q66629 : Bool) : Option (List S23 × Int) := (if q66629 = true then (rec_l46 (wrap64 (i59587 - 1)) l66165) else (if (wrap64 ((wrap64 ((wrap64 (2 * i66162)) + 1)) + 1)) < (r45214.length : Int) then (if 0 ≤ wrap64 ((wrap64 ((wrap64 (2 * i66162)) + 1)) + 1) then ((l66165[(wrap64 ((wrap64 ((wrap64 (2 * i66162)) + 1)) + 1)).toNat]?).bind fun x66663 => (if 0 ≤ wrap64 ((wrap64 (2 * i66162)) + 1) then ((l66165[(wrap64 ((wrap64 (2 * i66162)) + 1)).toNat]?).bind fun x66665 => ((queue_compare.f k x66663.f0 x66663.f1 x66663.f2 x66665.f0 x66665.f1 x66665.f2).bind fun t66666 => (if t66666 < 0 then ((l66165[(wrap64 ((wrap64 ((wrap64 (2 * i66162)) + 1)) + 1)).toNat]?).bind fun x66692 => (if 0 ≤ i66162 then ((l66165[i66162.toNat]?).bind fun x66694 => ((queue_compare.f k x66692.f0 x66692.f1 x66692.f2 x66694.f0 x66694.f1 x66694.f2).bind fun t66695 => (if t66695 < 0 then ((queue_waits_Swap.f l66165 i66162 (wrap64 ((wrap64 ((wrap64 (2 * i66162)) + 1)) + 1))).bind fun r66699 => (rec_l53 (wrap64 ((wrap64 ((wrap64 (2 * i66162)) + 1)) + 1)) r66699)) else (rec_l46 (wrap64 (i59587 - 1)) l66165)))) else none)) else ((l66165[(wrap64 ((wrap64 (2 * i66162)) + 1)).toNat]?).bind fun x66725 => (if 0 ≤ i66162 then ((l66165[i66162.toNat]?).bind fun x66727 => ((queue_compare.f k x66725.f0 x66725.f1 x66725.f2 x66727.f0 x66727.f1 x66727.f2).bind fun t66728 => (if t66728 < 0 then ((queue_waits_Swap.f l66165 i66162 (wrap64 ((wrap64 (2 * i66162)) + 1))).bind fun r66732 => (rec_l53 (wrap64 ((wrap64 (2 * i66162)) + 1)) r66732)) else (rec_l46 (wrap64 (i59587 - 1)) l66165)))) else none))))) else none)) else none) else (if 0 ≤ wrap64 ((wrap64 (2 * i66162)) + 1) then ((l66165[(wrap64 ((wrap64 (2 * i66162)) + 1)).toNat]?).bind fun x66762 => (if 0 ≤ i66162 then ((l66165[i66162.toNat]?).bind fun x66764 => ((queue_compare.f k x66762.f0 x66762.f1 x66762.f2 x66764.f0 x66764.f1 x66764.f2).bind fun t66765 => (if t66765 < 0 then ((queue_waits_Swap.f l66165 i66162 (wrap64 ((wrap64 (2 * i66162)) + 1))).bind fun r66769 => (rec_l53 (wrap64 ((wrap64 (2 * i66162)) + 1)) r66769)) else (rec_l46 (wrap64 (i59587 - 1)) l66165)))) else none)) else none)))
def queue_Make.l53 (k : Nat) (rec_l46 : Int → (List S23) → Option (List S23 × Int)) (i59587 : Int) (r45214 : List S23) : Nat → Int → (List S23) → Option (List S23 × Int)
  | 0, _, _ => none
  | ml53 + 1, i66162, l66165 => (if (wrap64 ((wrap64 (2 * i66162)) + 1)) ≥ (r45214.length : Int) then (queue_Make.j54 k rec_l46 (queue_Make.l53 k rec_l46 i59587 r45214 ml53) i59587 i66162 l66165 r45214 true true true) else (queue_Make.j54 k rec_l46 (queue_Make.l53 k rec_l46 i59587 r45214 ml53) i59587 i66162 l66165 r45214 false false (decide ((wrap64 ((wrap64 (2 * i66162)) + 1)) < 0))))
def queue_Make.l46 (k : Nat) (r45214 : List S23) : Nat → Int → (List S23) → Option (List S23 × Int)
  | 0, _, _ => none
  | ml46 + 1, i59587, l59590 => (if i59587 ≥ 0 then (queue_Make.l53 k (queue_Make.l46 k r45214 ml46) i59587 r45214 k i59587 l59590) else (some (l59590, 0)))
def queue_Make.j36 (k : Nat) (l0 : List S23) (q45211 : Bool) : Option (List S23 × Int) := (if q45211 = true then (some (([] : List S23), 1)) else ((slices_Clone_api_Wait_api_Wait.f l0).bind fun r45214 => (queue_Make.l46 k r45214 k (wrap64 ((IntKind.i64.wrap ((r45214.length : Int).tdiv 2)) - 1)) r45214)))
def queue_Make.f (k : Nat) (l0 : List S23) : Option (List S23 × Int) := ((queue_all.f k l0).bind fun t45208 => (if t45208 = true then (queue_Make.j36 k l0 false) else (queue_Make.j36 k l0 true)))
def queue_Sorted.j77 (k : Nat) (rec_l41 : (List S23) → (List S23) → Option (List S23 × Int)) (l139996 : List S23) (l167732 : List S23) : Option (List S23 × Int) := (if 0 ≤ wrap64 ((l167732.length : Int) - 1) then ((l167732[(wrap64 ((l167732.length : Int) - 1)).toNat]?).bind fun x167742 => (if (wrap64 ((l167732.length : Int) - 1)) ≤ (l167732.length : Int) then (if (l139996.length + ([x167742] : List S23).length) * 24 ≤ 140737488355328 then (rec_l41 (l139996 ++ ([x167742] : List S23)) (l167732.take ((wrap64 ((l167732.length : Int) - 1)).toNat))) else none) else none)) else none)
def queue_Sorted.j81 (k : Nat) (rec_l41 : (List S23) → (List S23) → Option (List S23 × Int)) (rec_l80 : Int → (List S23) → Option (List S23 × Int)) (i167119 : Int) (l139996 : List S23) (l140000 : List S23) (l167122 : List S23) (q167584 : Bool) (q167585 : Bool) (q167586 : Bool) : Option (List S23 × Int) := (if q167586 = true then (queue_Sorted.j77 k rec_l41 l139996 l167122) else (if (wrap64 ((wrap64 ((wrap64 (2 * i167119)) + 1)) + 1)) < (wrap64 ((l140000.length : Int) - 1)) then (if 0 ≤ wrap64 ((wrap64 ((wrap64 (2 * i167119)) + 1)) + 1) then ((l167122[(wrap64 ((wrap64 ((wrap64 (2 * i167119)) + 1)) + 1)).toNat]?).bind fun x167620 => (if 0 ≤ wrap64 ((wrap64 (2 * i167119)) + 1) then ((l167122[(wrap64 ((wrap64 (2 * i167119)) + 1)).toNat]?).bind fun x167622 => ((queue_compare.f k x167620.f0 x167620.f1 x167620.f2 x167622.f0 x167622.f1 x167622.f2).bind fun t167623 => (if t167623 < 0 then ((l167122[(wrap64 ((wrap64 ((wrap64 (2 * i167119)) + 1)) + 1)).toNat]?).bind fun x167649 => (if 0 ≤ i167119 then ((l167122[i167119.toNat]?).bind fun x167651 => ((queue_compare.f k x167649.f0 x167649.f1 x167649.f2 x167651.f0 x167651.f1 x167651.f2).bind fun t167652 => (if t167652 < 0 then ((queue_waits_Swap.f l167122 i167119 (wrap64 ((wrap64 ((wrap64 (2 * i167119)) + 1)) + 1))).bind fun r167656 => (rec_l80 (wrap64 ((wrap64 ((wrap64 (2 * i167119)) + 1)) + 1)) r167656)) else (queue_Sorted.j77 k rec_l41 l139996 l167122)))) else none)) else ((l167122[(wrap64 ((wrap64 (2 * i167119)) + 1)).toNat]?).bind fun x167682 => (if 0 ≤ i167119 then ((l167122[i167119.toNat]?).bind fun x167684 => ((queue_compare.f k x167682.f0 x167682.f1 x167682.f2 x167684.f0 x167684.f1 x167684.f2).bind fun t167685 => (if t167685 < 0 then ((queue_waits_Swap.f l167122 i167119 (wrap64 ((wrap64 (2 * i167119)) + 1))).bind fun r167689 => (rec_l80 (wrap64 ((wrap64 (2 * i167119)) + 1)) r167689)) else (queue_Sorted.j77 k rec_l41 l139996 l167122)))) else none))))) else none)) else none) else (if 0 ≤ wrap64 ((wrap64 (2 * i167119)) + 1) then ((l167122[(wrap64 ((wrap64 (2 * i167119)) + 1)).toNat]?).bind fun x167719 => (if 0 ≤ i167119 then ((l167122[i167119.toNat]?).bind fun x167721 => ((queue_compare.f k x167719.f0 x167719.f1 x167719.f2 x167721.f0 x167721.f1 x167721.f2).bind fun t167722 => (if t167722 < 0 then ((queue_waits_Swap.f l167122 i167119 (wrap64 ((wrap64 (2 * i167119)) + 1))).bind fun r167726 => (rec_l80 (wrap64 ((wrap64 (2 * i167119)) + 1)) r167726)) else (queue_Sorted.j77 k rec_l41 l139996 l167122)))) else none)) else none)))
def queue_Sorted.l80 (k : Nat) (rec_l41 : (List S23) → (List S23) → Option (List S23 × Int)) (l139996 : List S23) (l140000 : List S23) : Nat → Int → (List S23) → Option (List S23 × Int)
  | 0, _, _ => none
  | ml80 + 1, i167119, l167122 => (if (wrap64 ((wrap64 (2 * i167119)) + 1)) ≥ (wrap64 ((l140000.length : Int) - 1)) then (queue_Sorted.j81 k rec_l41 (queue_Sorted.l80 k rec_l41 l139996 l140000 ml80) i167119 l139996 l140000 l167122 true true true) else (queue_Sorted.j81 k rec_l41 (queue_Sorted.l80 k rec_l41 l139996 l140000 ml80) i167119 l139996 l140000 l167122 false false (decide ((wrap64 ((wrap64 (2 * i167119)) + 1)) < 0))))
def queue_Sorted.l41 (k : Nat)  : Nat → (List S23) → (List S23) → Option (List S23 × Int)
  | 0, _, _ => none
  | ml41 + 1, l139996, l140000 => (if (l140000.length : Int) > 0 then ((queue_waits_Swap.f l140000 0 (wrap64 ((l140000.length : Int) - 1))).bind fun r160742 => (queue_Sorted.l80 k (queue_Sorted.l41 k ml41) l139996 l140000 k 0 r160742)) else (some (l139996, 0)))
def queue_Sorted.f (k : Nat) (l0 : List S23) : Option (List S23 × Int) := ((queue_Make.f k l0).bind fun ⟨r66779, t66780⟩ => (if t66780 = 0 then (queue_Sorted.l41 k k ([] : List S23) r66779) else (some (([] : List S23), t66780))))
def queue_Less.f (k : Nat) (a0_0 : Int) (a0_1 : Int) (a0_2 : Int) (a1_0 : Int) (a1_1 : Int) (a1_2 : Int) : Option (Bool) := ((queue_compare.f k a0_0 a0_1 a0_2 a1_0 a1_1 a1_2).bind fun t167763 => (some (decide (t167763 < 0))))
def tarryref06_Less.f (a0_0 : Int) (a0_1 : Int) (a0_2 : Int) (a1_0 : Int) (a1_1 : Int) (a1_2 : Int) : Option (Bool) := (if a0_0 = a1_0 then (if a0_1 = a1_1 then (some (decide (a0_2 < a1_2))) else (some (decide (a0_1 < a1_1)))) else (some (decide (a0_0 < a1_0))))
def queue_Right.l1 (k : Nat) (l0 : List S23) : Nat → Int → Option (Bool)
  | 0, _ => none
  | ml1 + 1, i167859 => (if i167859 < (l0.length : Int) then (if 0 ≤ i167859 then ((l0[i167859.toNat]?).bind fun x167892 => (if 0 ≤ IntKind.i64.wrap ((wrap64 (i167859 - 1)).tdiv 2) then ((l0[(IntKind.i64.wrap ((wrap64 (i167859 - 1)).tdiv 2)).toNat]?).bind fun x167894 => ((queue_Less.f k x167892.f0 x167892.f1 x167892.f2 x167894.f0 x167894.f1 x167894.f2).bind fun t167895 => (if t167895 = true then (some false) else (queue_Right.l1 k l0 ml1 (wrap64 (i167859 + 1)))))) else none)) else none) else ((queue_all.f k l0).bind fun t167898 => (some t167898)))
def queue_Right.f (k : Nat) (l0 : List S23) : Option (Bool) := (queue_Right.l1 k l0 k 1)
def tarryref06_May.f (a0_0 : Int) (a0_1 : Int) (a0_2 : Int) : Option (Bool) := (if a0_0 ≥ 0 then (if a0_0 ≤ 3 then (if a0_1 ≥ 1 then (if a0_1 ≤ 1099511627776 then (if a0_2 ≥ 1 then (some (decide (a0_2 ≤ 1099511627776))) else (some false)) else (some false)) else (some false)) else (some false)) else (some false))
def tarryref06_All.l1 (k : Nat) (l0 : List S23) : Nat → Int → Option (Bool)
  | 0, _ => none
  | ml1 + 1, i168297 => (if i168297 < (l0.length : Int) then (if 0 ≤ i168297 then ((l0[i168297.toNat]?).bind fun x168339 => ((tarryref06_May.f x168339.f0 x168339.f1 x168339.f2).bind fun t168346 => (if t168346 = true then (tarryref06_All.l1 k l0 ml1 (wrap64 (i168297 + 1))) else (some false)))) else none) else (some (decide ((l0.length : Int) ≤ 64))))
def tarryref06_All.f (k : Nat) (l0 : List S23) : Option (Bool) := (tarryref06_All.l1 k l0 k 0)
def tarryref06_Heap.l1 (k : Nat) (l0 : List S23) : Nat → Int → Option (Bool)
  | 0, _ => none
  | ml1 + 1, i168118 => (if i168118 < (l0.length : Int) then (if (wrap64 ((wrap64 (2 * i168118)) + 1)) < (l0.length : Int) then (if 0 ≤ wrap64 ((wrap64 (2 * i168118)) + 1) then ((l0[(wrap64 ((wrap64 (2 * i168118)) + 1)).toNat]?).bind fun x168382 => (if 0 ≤ i168118 then ((l0[i168118.toNat]?).bind fun x168384 => ((tarryref06_Less.f x168382.f0 x168382.f1 x168382.f2 x168384.f0 x168384.f1 x168384.f2).bind fun t168385 => (if t168385 = true then (some false) else (if (wrap64 ((wrap64 (2 * i168118)) + 2)) < (l0.length : Int) then (if 0 ≤ wrap64 ((wrap64 (2 * i168118)) + 2) then ((l0[(wrap64 ((wrap64 (2 * i168118)) + 2)).toNat]?).bind fun x168391 => ((l0[i168118.toNat]?).bind fun x168392 => ((tarryref06_Less.f x168391.f0 x168391.f1 x168391.f2 x168392.f0 x168392.f1 x168392.f2).bind fun t168393 => (if t168393 = true then (some false) else (tarryref06_Heap.l1 k l0 ml1 (wrap64 (i168118 + 1))))))) else none) else (tarryref06_Heap.l1 k l0 ml1 (wrap64 (i168118 + 1))))))) else none)) else none) else (if (wrap64 ((wrap64 (2 * i168118)) + 2)) < (l0.length : Int) then (if 0 ≤ wrap64 ((wrap64 (2 * i168118)) + 2) then ((l0[(wrap64 ((wrap64 (2 * i168118)) + 2)).toNat]?).bind fun x168399 => (if 0 ≤ i168118 then ((l0[i168118.toNat]?).bind fun x168401 => ((tarryref06_Less.f x168399.f0 x168399.f1 x168399.f2 x168401.f0 x168401.f1 x168401.f2).bind fun t168402 => (if t168402 = true then (some false) else (tarryref06_Heap.l1 k l0 ml1 (wrap64 (i168118 + 1)))))) else none)) else none) else (tarryref06_Heap.l1 k l0 ml1 (wrap64 (i168118 + 1))))) else ((tarryref06_All.f k l0).bind fun t168405 => (some t168405)))
def tarryref06_Heap.f (k : Nat) (l0 : List S23) : Option (Bool) := (tarryref06_Heap.l1 k l0 k 0)
def queue_Pop.j96 (k : Nat) (l202732 : List S23) : Option (List S23 × Int × Int × Int × Int) := (if 0 ≤ wrap64 ((l202732.length : Int) - 1) then ((l202732[(wrap64 ((l202732.length : Int) - 1)).toNat]?).bind fun x202742 => (if (wrap64 ((l202732.length : Int) - 1)) ≤ (l202732.length : Int) then (some ((l202732.take ((wrap64 ((l202732.length : Int) - 1)).toNat)), x202742.f0, x202742.f1, x202742.f2, 0)) else none)) else none)
def queue_Pop.j100 (k : Nat) (rec_l99 : Int → (List S23) → Option (List S23 × Int × Int × Int × Int)) (i202119 : Int) (l202122 : List S23) (r189029 : List S23) (q202584 : Bool) (q202585 : Bool) (q202586 : Bool) : Option (List S23 × Int × Int × Int × Int) := (if q202586 = true then (queue_Pop.j96 k l202122) else (if (wrap64 ((wrap64 ((wrap64 (2 * i202119)) + 1)) + 1)) < (wrap64 ((r189029.length : Int) - 1)) then (if 0 ≤ wrap64 ((wrap64 ((wrap64 (2 * i202119)) + 1)) + 1) then ((l202122[(wrap64 ((wrap64 ((wrap64 (2 * i202119)) + 1)) + 1)).toNat]?).bind fun x202620 => (if 0 ≤ wrap64 ((wrap64 (2 * i202119)) + 1) then ((l202122[(wrap64 ((wrap64 (2 * i202119)) + 1)).toNat]?).bind fun x202622 => ((queue_compare.f k x202620.f0 x202620.f1 x202620.f2 x202622.f0 x202622.f1 x202622.f2).bind fun t202623 => (if t202623 < 0 then ((l202122[(wrap64 ((wrap64 ((wrap64 (2 * i202119)) + 1)) + 1)).toNat]?).bind fun x202649 => (if 0 ≤ i202119 then ((l202122[i202119.toNat]?).bind fun x202651 => ((queue_compare.f k x202649.f0 x202649.f1 x202649.f2 x202651.f0 x202651.f1 x202651.f2).bind fun t202652 => (if t202652 < 0 then ((queue_waits_Swap.f l202122 i202119 (wrap64 ((wrap64 ((wrap64 (2 * i202119)) + 1)) + 1))).bind fun r202656 => (rec_l99 (wrap64 ((wrap64 ((wrap64 (2 * i202119)) + 1)) + 1)) r202656)) else (queue_Pop.j96 k l202122)))) else none)) else ((l202122[(wrap64 ((wrap64 (2 * i202119)) + 1)).toNat]?).bind fun x202682 => (if 0 ≤ i202119 then ((l202122[i202119.toNat]?).bind fun x202684 => ((queue_compare.f k x202682.f0 x202682.f1 x202682.f2 x202684.f0 x202684.f1 x202684.f2).bind fun t202685 => (if t202685 < 0 then ((queue_waits_Swap.f l202122 i202119 (wrap64 ((wrap64 (2 * i202119)) + 1))).bind fun r202689 => (rec_l99 (wrap64 ((wrap64 (2 * i202119)) + 1)) r202689)) else (queue_Pop.j96 k l202122)))) else none))))) else none)) else none) else (if 0 ≤ wrap64 ((wrap64 (2 * i202119)) + 1) then ((l202122[(wrap64 ((wrap64 (2 * i202119)) + 1)).toNat]?).bind fun x202719 => (if 0 ≤ i202119 then ((l202122[i202119.toNat]?).bind fun x202721 => ((queue_compare.f k x202719.f0 x202719.f1 x202719.f2 x202721.f0 x202721.f1 x202721.f2).bind fun t202722 => (if t202722 < 0 then ((queue_waits_Swap.f l202122 i202119 (wrap64 ((wrap64 (2 * i202119)) + 1))).bind fun r202726 => (rec_l99 (wrap64 ((wrap64 (2 * i202119)) + 1)) r202726)) else (queue_Pop.j96 k l202122)))) else none)) else none)))
def queue_Pop.l99 (k : Nat) (r189029 : List S23) : Nat → Int → (List S23) → Option (List S23 × Int × Int × Int × Int)
  | 0, _, _ => none
  | ml99 + 1, i202119, l202122 => (if (wrap64 ((wrap64 (2 * i202119)) + 1)) ≥ (wrap64 ((r189029.length : Int) - 1)) then (queue_Pop.j100 k (queue_Pop.l99 k r189029 ml99) i202119 l202122 r189029 true true true) else (queue_Pop.j100 k (queue_Pop.l99 k r189029 ml99) i202119 l202122 r189029 false false (decide ((wrap64 ((wrap64 (2 * i202119)) + 1)) < 0))))
def queue_Pop.j60 (k : Nat) (l0 : List S23) (q189023 : Bool) : Option (List S23 × Int × Int × Int × Int) := (if q189023 = true then (some (([] : List S23), 0, 0, 0, 1)) else (if (l0.length : Int) = 0 then (some (([] : List S23), 0, 0, 0, 8)) else ((slices_Clone_api_Wait_api_Wait.f l0).bind fun r189029 => ((queue_waits_Swap.f r189029 0 (wrap64 ((r189029.length : Int) - 1))).bind fun r195892 => (queue_Pop.l99 k r189029 k 0 r195892)))))
def queue_Pop.f (k : Nat) (l0 : List S23) : Option (List S23 × Int × Int × Int × Int) := ((queue_Right.f k l0).bind fun t189020 => (if t189020 = true then (queue_Pop.j60 k l0 false) else (queue_Pop.j60 k l0 true)))
def tarrylaw06_alive.f (k : Nat)  : Option (Bool) := ((queue_Make.f k ([(⟨1, 1, 1⟩ : S23), (⟨0, 9, 2⟩ : S23)] : List S23)).bind fun ⟨r168413, t168414⟩ => ((queue_Pop.f k r168413).bind fun ⟨r202750, t202751, t202752, t202753, t202754⟩ => (if t168414 = 0 then (if t202754 = 0 then (if t202753 = 2 then (some ((r202750.length : Int) == 1)) else (some false)) else (some false)) else (some false))))
def tarryref06_Sorted.l9 (k : Nat) (rec_l5 : (List S23) → Int → Option (List S23)) (i204123 : Int) (l204122 : List S23) (x204616 : S23) : Nat → Int → Option (List S23)
  | 0, _ => none
  | ml9 + 1, i204673 => (if i204673 < (l204122.length : Int) then (if 0 ≤ i204673 then ((l204122[i204673.toNat]?).bind fun x204735 => ((tarryref06_Less.f x204616.f0 x204616.f1 x204616.f2 x204735.f0 x204735.f1 x204735.f2).bind fun t204736 => (if t204736 = true then (if i204673 ≤ (l204122.length : Int) then (if (([] : List S23).length + ((l204122.take i204673.toNat).drop 0).length) * 24 ≤ 140737488355328 then (if ((([] : List S23) ++ ((l204122.take i204673.toNat).drop 0)).length + ([x204616] : List S23).length) * 24 ≤ 140737488355328 then (if (((([] : List S23) ++ ((l204122.take i204673.toNat).drop 0)) ++ ([x204616] : List S23)).length + ((l204122.take l204122.length).drop i204673.toNat).length) * 24 ≤ 140737488355328 then (rec_l5 (((([] : List S23) ++ ((l204122.take i204673.toNat).drop 0)) ++ ([x204616] : List S23)) ++ ((l204122.take l204122.length).drop i204673.toNat)) (wrap64 (i204123 + 1))) else none) else none) else none) else none) else (tarryref06_Sorted.l9 k rec_l5 i204123 l204122 x204616 ml9 (wrap64 (i204673 + 1)))))) else none) else (if 0 ≤ i204673 then (if i204673 ≤ (l204122.length : Int) then (if (([] : List S23).length + ((l204122.take i204673.toNat).drop 0).length) * 24 ≤ 140737488355328 then (if ((([] : List S23) ++ ((l204122.take i204673.toNat).drop 0)).length + ([x204616] : List S23).length) * 24 ≤ 140737488355328 then (if (((([] : List S23) ++ ((l204122.take i204673.toNat).drop 0)) ++ ([x204616] : List S23)).length + ((l204122.take l204122.length).drop i204673.toNat).length) * 24 ≤ 140737488355328 then (rec_l5 (((([] : List S23) ++ ((l204122.take i204673.toNat).drop 0)) ++ ([x204616] : List S23)) ++ ((l204122.take l204122.length).drop i204673.toNat)) (wrap64 (i204123 + 1))) else none) else none) else none) else none) else none))
def tarryref06_Sorted.l5 (k : Nat) (l0 : List S23) : Nat → (List S23) → Int → Option (List S23)
  | 0, _, _ => none
  | ml5 + 1, l204122, i204123 => (if i204123 < (l0.length : Int) then (if 0 ≤ i204123 then ((l0[i204123.toNat]?).bind fun x204616 => (tarryref06_Sorted.l9 k (tarryref06_Sorted.l5 k l0 ml5) i204123 l204122 x204616 k 0)) else none) else (some l204122))
def tarryref06_Sorted.f (k : Nat) (l0 : List S23) : Option (List S23) := (tarryref06_Sorted.l5 k l0 k ([] : List S23) 0)
def tarryref06_Same.l1 (k : Nat) (l0 : List S23) (l1 : List S23) : Nat → Int → Option (Bool)
  | 0, _ => none
  | ml1 + 1, i204843 => (if i204843 < (l0.length : Int) then (if 0 ≤ i204843 then ((l0[i204843.toNat]?).bind fun x204866 => ((l1[i204843.toNat]?).bind fun x204867 => (if (((x204866.f0 == x204867.f0) && ((x204866.f1 == x204867.f1) && (x204866.f2 == x204867.f2)))) = true then (tarryref06_Same.l1 k l0 l1 ml1 (wrap64 (i204843 + 1))) else (some false)))) else none) else (some true))
def tarryref06_Same.f (k : Nat) (l0 : List S23) (l1 : List S23) : Option (Bool) := (if (l0.length : Int) = (l1.length : Int) then (tarryref06_Same.l1 k l0 l1 k 0) else (some false))
def tarrylaw06_QueueHeaps.f (k : Nat) (l0 : List S23) (a1_0 : Int) (a1_1 : Int) (a1_2 : Int) (a2_0 : Int) (a2_1 : Int) (a2_2 : Int) : Option (Bool) := ((tarrylaw06_few.f l0).bind fun r14 => ((queue_Make.f k r14).bind fun ⟨r66773, t66774⟩ => ((queue_Sorted.f k r14).bind fun ⟨r167756, t167757⟩ => ((queue_Less.f k a1_0 a1_1 a1_2 a2_0 a2_1 a2_2).bind fun t202776 => ((tarryref06_Less.f a1_0 a1_1 a1_2 a2_0 a2_1 a2_2).bind fun t202778 => (if t202776 = t202778 then ((queue_Right.f k r14).bind fun t202782 => ((tarryref06_Heap.f k r14).bind fun t202784 => (if t202782 = t202784 then ((tarrylaw06_alive.f k).bind fun t202788 => (if t202788 = true then ((tarryref06_All.f k r14).bind fun t202810 => (if t202810 = true then ((tarryref06_Sorted.f k r14).bind fun r204776 => (if t66774 = 0 then (if t167757 = 0 then ((tarryref06_Same.f k r167756 r204776).bind fun t204886 => (if t204886 = true then ((tarryref06_Heap.f k r66773).bind fun t204889 => (if t204889 = true then ((tarryref06_Sorted.f k r66773).bind fun r204892 => ((tarryref06_Same.f k r204892 r204776).bind fun t204896 => (some t204896))) else none)) else none)) else none) else none)) else (if t66774 = 1 then (if t167757 = 1 then (some ((wrap64 ((r66773.length : Int) + (r167756.length : Int))) == 0)) else none) else none))) else none)) else none))) else none))))))
/-- THE ONE PURE STATEMENT. -/
def tarrylaw06_QueueHeaps.Pure : Prop := ∀ (l0 : List S23) (a1_0 : Int) (a1_1 : Int) (a1_2 : Int) (a2_0 : Int) (a2_1 : Int) (a2_2 : Int), allOk ok23 l0 → (Lit.int .i64 a1_0).wf = true → (Lit.int .i64 a1_1).wf = true → (Lit.int .i64 a1_2).wf = true → (Lit.int .i64 a2_0).wf = true → (Lit.int .i64 a2_1).wf = true → (Lit.int .i64 a2_2).wf = true → ∃ k, tarrylaw06_QueueHeaps.f k l0 a1_0 a1_1 a1_2 a2_0 a2_1 a2_2 = some true

end Go.Proofs.Ythgoagnennjagaa.PQueueHeaps
